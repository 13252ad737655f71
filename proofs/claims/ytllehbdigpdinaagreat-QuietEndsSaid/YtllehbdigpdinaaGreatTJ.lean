import Derived.Test.YtllehbdigpdinaaGreatProg
import Derived.SizedLaws
import Derived.ProofKit
import Derived.Carry
import Derived.Test.YtllehbdigpdinaaGreatTC
import Derived.Test.YtllehbdigpdinaaGreatTA
set_option linter.all false
set_option maxRecDepth 100000
set_option maxHeartbeats 4000000
namespace Go.Ab
variable{ρ:Nat->Nat}{ob:Ob}{sel:List Nat}{j i b:Nat}{hops:List ig}{K H0:zn}{args args0:List C}{r:C}{T:mW}
def vH(ρ:Nat->Nat):Nat->C->C
 |0,_=>.za
 |k+1,c=>match c with
  |.ref id hops sz i j=>.ref (ρ id) hops sz i j
  |.sl id hops sz lo len full=>.sl (ρ id) hops sz lo len full
  |.mp id=>.mp (ρ id)
  |.gl id sz rows=>.gl (ρ id) sz rows
  |.iF t c=>.iF t (vH ρ k c)
  |.rc r=>.rc r
  |.agg cs=>.agg (cs.map (vH ρ k))
  |.fJ cs=>.fJ (cs.map (vH ρ k))
  |.fn f first caps=>.fn f (first.map (vH ρ k)) (caps.map (vH ρ k))
  |.v x=>.v x
  |.fF o sz rows=>.fF o sz rows
  |.jy cells=>.jy cells
  |.un=>.un
  |.za=>.za
structure I1(E E':Env)(ρ:Nat->Nat):Prop where
 n:∀id,id<E.n->ρ id<E'.n
 β:∀id hops,id<E.n->E'.β (ρ id) hops=E.β id hops
 κ:∀id hops,id<E.n->E'.κ (ρ id) hops=E.κ id hops
 G:∀id k,id<E.n->E'.G (ρ id) k=E.G id k
 St:E'.St=E.St
def I1.shut{E E':Env}{ρ:Nat->Nat}(h:I1 E E' ρ):E.shut.le E'.shut:=
 ⟨gG _,λid hops hi=>absurd hi (pG _),λid hops hi=>absurd hi (pG _),λb o u hu=>by show E'.St b o=_;rw[h.St];exact hu,λid _ _ hi=>absurd hi (pG _)⟩
def L.NR{E E':Env}(h:I1 E E' ρ):∀(k:Nat) {c:C} {y:Value},L E c y->L E' (vH ρ k c) y:=by
 intro k
 induction k with
 |zero=>intro c y _;exact .za y
 |succ k ih=>
  intro c y hl;cases hl with
  |v x hx=>exact .v _ hx
  |fF o sz rows b off cap us ho hc hsz hst hL=>
   exact .fF o sz rows b off cap us ho hc hsz (λi r k c e1 e2=>by rw[h.St];exact hst i r k c e1 e2) (λi r k c e1 e2=>(hL i r k c e1 e2).mono h.shut)
  |xE o sz ho a=>exact .xE o sz ho a
  |jy cells b off us hst hL=>exact .jy cells b off us (λk c e1=>by rw[h.St];exact hst k c e1) (λk c e1=>(hL k c e1).mono h.shut)
  |ref id hops sz i j hn=>
   have:=L.ref (E:=E') (ρ id) hops sz i j (h.n id hn);rw[h.β id hops hn]at this;exact dG
  |sl id hops sz lo len full cap hn hlen hf hf'=>
   have:=L.sl (E:=E') (ρ id) hops sz lo len full cap (h.n id hn) hlen hf (λe=>by rw[h.κ id hops hn];exact hf' e);rw[h.β id hops hn]at this;exact dG
  |mp id hn=>
   have:=L.mp (E:=E') (ρ id) (h.n id hn);rw[h.β id [] hn]at this;exact dG
  |agg cs ys h1 h2 h3=>
   have:=LL.fL (f:=vH ρ k) (E':=E') (cs:=cs) (ys:=ys.toList) ⟨aq h1,λi c y e1 e2=>h2 i c y e1 uZ⟩ (λc y hl=>ih hl);exact dD
  |fJ cs ys h1 h2=>
   have:=LL.fL (f:=vH ρ k) (E':=E') (cs:=cs) (ys:=ys.toList) ⟨aq h1,λi c y e1 e2=>h2 i c y e1 uZ⟩ (λc y hl=>ih hl);exact .fJ _ ys (aq this.1) (λi c y e1 e2=>this.2 i c y e1 uZ)
  |fn f first caps ys zs h1 h2 h3 h4=>
   have t1:=LL.fL (f:=vH ρ k) (E':=E') (cs:=first) (ys:=ys.toList) ⟨aq h1,λi c y e1 e2=>h3 i c y e1 uZ⟩ (λc y hl=>ih hl);have t2:=LL.fL (f:=vH ρ k) (E':=E') (cs:=caps) (ys:=zs.toList) ⟨aq h2,λi c y e1 e2=>h4 i c y e1 uZ⟩ (λc y hl=>ih hl);exact dM
  |un=>exact .un
  |za y=>exact .za y
  |gl id sz rows y hn hg hl=>exact .gl (ρ id) sz rows y (h.n id hn) (by rw[h.G id _ hn];exact hg) (hl.mono h.shut)
  |iF t c y hl=>exact .iF t _ y (ih hl)
def Qp(ρ:Nat->Nat)(k:Nat){c:C}(h:zB c=true):zB (vH ρ k c)=true:=by
 cases k with
 |zero=>rfl
 |succ k=>cases c <;> first|exact h|rfl
def zG(ρ:Nat->Nat)(ob:Ob):Ob:=
 match ob with
 |⟨kind,ty,sz,rows,fz⟩=>match kind with
  |2=>⟨2,ty,sz,rows,fz⟩
  |4=>⟨4,ty,sz,rows,fz⟩
  |kd=>⟨kd,ty,sz,rows.map λr=>r.map (vH ρ 9),fz⟩
def xM(ρ:Nat->Nat)(ob:Ob):(zG ρ ob).kind=ob.kind/\(zG ρ ob).ty=ob.ty/\(zG ρ ob).sz=ob.sz/\(zG ρ ob).rows.length=ob.rows.length/\(zG ρ ob).fz=ob.fz:=by
 obtain⟨kind,ty,sz,rows,fz⟩:=ob;unfold zG;dsimp only;split <;> simp
def LK(h:ob.kind=4):zG ρ ob=ob:=by
 obtain⟨kind,ty,sz,rows,fz⟩:=ob;cases h
 rfl
def jm(sel:List Nat)(n id:Nat):Nat:=match sel[id]? with
 |some x=>x
 |none=>n+(id-sel.length)
def xA(sel:List Nat)(n i:Nat):Option Nat:=match posOf sel 0 i with
 |some j=>some j
 |none=>if i<n then none else some (sel.length+(i-n))
def Ar(sel:List Nat)(H':zn)(ρ:Nat->Nat):Nat->zn->zn
 |_,[]=>[]
 |i,ob::K=>(match posOf sel 0 i with
  |some j=>match H'[j]? with
   |some o=>zG ρ o
   |none=>dead
  |none=>ob)::Ar sel H' ρ (i+1) K
def lD(sel:List Nat)(K H':zn):zn:=Ar sel H' (jm sel K.length) 0 K++(H'.drop sel.length).map (zG (jm sel K.length))
def Kz(sel:List Nat)(H':zn)(ρ:Nat->Nat):∀(i:Nat) (K:zn),(Ar sel H' ρ i K).length=K.length
 |_,[]=>rfl
 |i,_::K=>by simp[Ar,Kz sel H' ρ (i+1) K]
def PY(sel:List Nat)(H':zn)(ρ:Nat->Nat):∀(k:Nat) (K:zn) (i:Nat),(Ar sel H' ρ k K)[i]?=(K[i]?).map λob=>match posOf sel 0 (k+i) with
  |some j=>match H'[j]? with
   |some o=>zG ρ o
   |none=>dead
  |none=>ob
 |_,[],i=>by simp[Ar]
 |k,ob::K,0=>by simp[Ar]
 |k,ob::K,i+1=>by
  rw[Ar,rB,rB,PY sel H' ρ (k+1) K i,show k+1+i=k+(i+1) from aw]
def Kl:∀{sel:List Nat} {k id:Nat},posOf sel k id=none->∀j:Nat,sel[j]?≠some id
 |[],k,id,_,j,h=>by simp at h
 |x::xs,k,id,h,j,e=>by
  unfold posOf at h;split at h
  .cases h
  .rename_i hx;cases j with
   |zero=>simp at e;exact hx (by simp[e])
   |succ j=>exact Kl h j (aq e)
def Ze{id:Nat}(iL:yw sel=true)(h:sel[j]?=some id):posOf sel 0 id=some j:=by
 cases e:posOf sel 0 id with
 |none=>exact absurd h (Kl e j)
 |some i=>
  obtain⟨_,h2⟩:=yx e;rw[rS]at h2;rw[wN iL i j id h2 h]
section
variable {w w':World} {E E0:Env} {K H':zn} {sel:List Nat}
structure Fr(w:World)(E:Env)(K:zn)(sel:List Nat)(w':World)(E0:Env)(H':zn):Prop where
 hh:qC w E K
 qb:sel.all (λid=>Nat.blt id K.length)=true
 iL:yw sel=true
 iu:qw K=true
 h0:qC w' E0 H'
 g:Grow w (E.fL sel) (xJ sel K) w' E0 H'
 hf:qw H'=true
def lJ(E:Env)(sel:List Nat)(n m:Nat)(E0:Env):Env where
 n:=n+(m-sel.length)
 β i hops:=match xA sel n i with
  |some j=>E0.β j hops
  |none=>E.β i hops
 κ i hops:=match xA sel n i with
  |some j=>E0.κ j hops
  |none=>E.κ i hops
 St:=E0.St
 G i k:=match xA sel n i with
  |some j=>E0.G j k
  |none=>E.G i k
namespace Fr
variable (f:Fr w E K sel w' E0 H')
include f
theorem le:sel.length<=H'.length:=by
 have:=f.g.le.n;rw[f.h0.n]at this;exact dG
theorem lt{id:Nat}(h:sel[i]?=some id):id<K.length:=by
 have:=gE.1 f.qb id (gu h);simpa [fC] using this
theorem VJ(hj:j<H'.length):xA sel K.length (jm sel K.length j)=some j:=by
 unfold jm xA;cases h:sel[j]? with
 |some x=>simp only;rw[Ze f.iL h]
 |none=>
  simp only;have h1:sel.length<=j:=pW.1 h
  have h2:posOf sel 0 (K.length+(j-sel.length))=none:=by
   cases e:posOf sel 0 (K.length+(j-sel.length)) with
   |none=>rfl
   |some i=>
    obtain⟨_,h2⟩:=yx e;rw[rS]at h2;have:=f.lt h2;omega
  rw[h2];simp only;rw[gp aw]
  congr 1
  omega
theorem zxD(hj:j<H'.length):jm sel K.length j<K.length+(H'.length-sel.length):=by
 have hle:=f.le;unfold jm;split
 .rename_i x h;have:=f.lt h;omega
 .rename_i h;have h1:sel.length<=j:=pW.1 h;omega
theorem DQ(h:xA sel K.length i=some j):jm sel K.length j=i:=by
 unfold xA at h;split at h
 .rename_i j' e;cases h
  obtain⟨_,h2⟩:=yx e;rw[rS]at h2;unfold jm;rw[h2]
 .split at h
  .cases h
  .cases h
   unfold jm;rw[pM aw];simp only;omega
theorem Kp(h:xA sel K.length i=none):i<K.length/\∀j:Nat,sel[j]?≠some i:=by
 unfold xA at h;split at h
 .cases h
 .rename_i e;split at h
  .rename_i h1;exact⟨h1,Kl e⟩
  .cases h
theorem len:(lD sel K H').length=K.length+(H'.length-sel.length):=by
 unfold lD;rw[pz,Kz,gC,List.length_drop]
theorem get(h:(lD sel K H')[i]?=some ob):(xA sel K.length i=none/\K[i]?=some ob)\/∃j o,xA sel K.length i=some j/\H'[j]?=some o/\ob=zG (jm sel K.length) o:=by
 have hle:=f.le;unfold lD at h;rw[eJ,Kz]at h;split at h
 .rename_i hi;rw[PY,gU]at h;rw[gk hi]at h;simp only[gK,gX]at h;unfold xA;cases e:posOf sel 0 i with
  |none=>rw[e]at h;left;exact⟨by simp[hi],by rw[gk hi,<-h]⟩
  |some j=>
   rw[e]at h
   right
   obtain⟨_,h2⟩:=yx e;rw[rS]at h2;have hj:j<H'.length:=pN (gh.1 h2).1 hle;simp only[gk hj]at h;exact⟨j,H'[j],rfl,gk hj,h.symm⟩
 .rename_i hi
  right
  have e:posOf sel 0 i=none:=by
   cases e:posOf sel 0 i with
   |none=>rfl
   |some j=>
    obtain⟨_,h2⟩:=yx e;rw[rS]at h2;exact absurd (f.lt h2) hi
  rw[gy,rb]at h;unfold xA;rw[e];simp only;rw[gp hi];cases hx:H'[sel.length+(i-K.length)]? with
  |none=>rw[hx]at h;cases h
  |some o=>rw[hx]at h;cases h;exact⟨_,o,rfl,hx,rfl⟩
theorem map:I1 E0 (lJ E sel K.length H'.length E0) (jm sel K.length) where
 n id hi:=f.zxD cg
 β id hops hi:=ck
 κ id hops hi:=ck
 G id k hi:=ck
 St:=rfl
theorem Jk(h:xA sel K.length i=some j)(hi:i<E.n):j<sel.length/\(sel[j]?).getD 0=i:=by
 rw[f.hh.n]at hi;unfold xA at h;split at h
 .rename_i j' e;cases h
  obtain⟨_,h2⟩:=yx e;rw[rS]at h2;exact⟨(gh.1 h2).1,by rw[h2];rfl⟩
 .rw[gz hi]at h;cases h
theorem Jj:E.le (lJ E sel K.length H'.length E0) where
 n:=by rw[f.hh.n];exact Nat.le_add_right _ _
 β id hops hi:=by
  unfold lJ;dsimp only;split
  .rename_i j e;obtain⟨h1,h2⟩:=f.Jk e hi;rw[f.g.le.β j hops h1];simp[Env.fL,h2]
  .rfl
 κ id hops hi:=by
  unfold lJ;dsimp only;split
  .rename_i j e;obtain⟨h1,h2⟩:=f.Jk e hi;rw[f.g.le.κ j hops h1];simp[Env.fL,h2]
  .rfl
 St b o u hu:=f.g.le.St b o u hu
 G id k u hi hu:=by
  unfold lJ;dsimp only;split
  .rename_i j e;obtain⟨h1,h2⟩:=f.Jk e hi;exact f.g.le.G j k u h1 (by simp only[Env.fL,h2];exact hu)
  .exact hu
theorem β_un(h:xA sel K.length i=none)(hops:List ig):(lJ E sel K.length H'.length E0).β i hops=E.β i hops:=by simp only[lJ,h]
theorem κ_un(h:xA sel K.length i=none)(hops:List ig):(lJ E sel K.length H'.length E0).κ i hops=E.κ i hops:=by simp only[lJ,h]
theorem IZ(h:xA sel K.length i=none)(k:Nat):(lJ E sel K.length H'.length E0).G i k=E.G i k:=by simp only[lJ,h]
theorem β_in(h:xA sel K.length i=some j)(hops:List ig):(lJ E sel K.length H'.length E0).β i hops=E0.β j hops:=by simp only[lJ,h]
theorem κ_in(h:xA sel K.length i=some j)(hops:List ig):(lJ E sel K.length H'.length E0).κ i hops=E0.κ j hops:=by simp only[lJ,h]
theorem IY(h:xA sel K.length i=some j)(k:Nat):(lJ E sel K.length H'.length E0).G i k=E0.G j k:=by simp only[lJ,h]
theorem LR(h:xF (E.fL sel) (xJ sel K) b):xF E K b:=by
 rcases h with hb|⟨i,hb|hb⟩
 .exact .inl (hb.fL f.qb f.iu)
 .obtain⟨id,_,h3⟩:=hb.fL f.qb;exact .inr ⟨id,.inl h3⟩
 .obtain⟨id,_,h3⟩:=hb.fL f.qb;exact .inr ⟨id,.inr h3⟩
theorem KA{id:Nat}(h:jQ K id b):∃o,w.heap[b]?=some o/\Em o=true:=by
 obtain⟨ob,o,t,h1,h2,h3,rfl⟩:=h;obtain⟨h4,_⟩:=f.hh.fH.iW id ob o t h1 h2 h3;exact⟨o,h4⟩
theorem Qf{id:Nat}(h:qP E K id b):∃cur e,w.heap[b]?=some (.cells cur e (0,0)):=by
 have h':=h;obtain⟨ob,cap,h1,_⟩:=h';obtain⟨cur,cap,_,h2,_⟩:=f.hh.fH.fR id b ob h h1;exact⟨cur,_,h2⟩
theorem Ex{id:Nat}{x:Nat×List (List C)}(hid:xA sel K.length id=none)(hx:qd K id hops=some x):E.β id hops<w.heap.size/\¬xF (E.fL sel) (xJ sel K) (E.β id hops):=by
 have hn:=(f.Kp hid).2;obtain⟨cur,e,hc⟩:=f.hh.base.F6 ⟨id,hops,x,hx,rfl⟩;refine⟨(gM.1 hc).1,?_⟩;rintro(⟨i,hops',⟨sz,rows⟩,hx',he⟩|⟨i,hb|hb⟩)
 .obtain⟨id2,ob,rows0,h3,h4,h5,_⟩:=DU f.qb f.iu hx';simp only[Env.fL,h3,Option.getD_some]at he;obtain⟨rfl,rfl⟩:=f.hh.base.inj id2 hops' id hops _ _ h5 hx he;exact hn i h3
 .obtain⟨id2,_,h3⟩:=hb.fL f.qb;exact f.hh.fH.sep id2 _ h3 ⟨id,hops,x,hx,rfl⟩
 .obtain⟨id2,_,h3⟩:=hb.fL f.qb;obtain⟨o,h4,h5⟩:=f.KA h3;rw[hc]at h4;cases h4
  cases h5
theorem Gb{id:Nat}(hid:xA sel K.length id=none)(hg:qP E K id b):b<w.heap.size/\¬xF (E.fL sel) (xJ sel K) b:=by
 have hn:=(f.Kp hid).2;obtain⟨cur,e,hc⟩:=f.Qf hg;refine⟨(gM.1 hc).1,?_⟩;rintro(hb|⟨i,hb|hb⟩)
 .exact f.hh.fH.sep id b hg (hb.fL f.qb f.iu)
 .obtain⟨id2,e2,h3⟩:=hb.fL f.qb;obtain rfl:=f.hh.fH.inj id2 id b h3 hg;exact hn i e2
 .obtain⟨id2,_,h3⟩:=hb.fL f.qb;obtain⟨o,h4,h5⟩:=f.KA h3;rw[hc]at h4;cases h4
  cases h5
theorem Mo{id:Nat}(hid:xA sel K.length id=none)(hg:jQ K id b):b<w.heap.size/\¬xF (E.fL sel) (xJ sel K) b:=by
 have hn:=(f.Kp hid).2;obtain⟨o,hc,hf⟩:=f.KA hg;refine⟨(gM.1 hc).1,?_⟩;rintro(hb|⟨i,hb|hb⟩)
 .obtain⟨cur,e,h4⟩:=f.hh.base.F6 (hb.fL f.qb f.iu);rw[hc]at h4;cases h4
  cases hf
 .obtain⟨id2,e2,h3⟩:=hb.fL f.qb;obtain⟨cur,e,h4⟩:=f.Qf h3;rw[hc]at h4;cases h4
  cases hf
 .obtain⟨id2,e2,h3⟩:=hb.fL f.qb;obtain rfl:=f.hh.fH.mb id2 id b h3 hg;exact hn i e2
theorem Ij(h:b<w.heap.size/\¬xF (E.fL sel) (xJ sel K) b):w'.heap[b]?=w.heap[b]?:=f.g.frame b h.1 h.2
theorem CN(h:b<w.heap.size/\¬xF (E.fL sel) (xJ sel K) b)(ho:xF E0 H' b):False:=by
 rcases f.g.own b ho with h1|h1
 .have:=h.1;omega
 .exact h.2 h1
theorem Th{o:Nat}{u:Value}(h:b<w.heap.size/\¬xF (E.fL sel) (xJ sel K) b)(hu:E0.St b o=some u):E.St b o=some u:=by
 rcases f.g.jZ b o u hu with h1|h1|h1
 .exact h1
 .have:=h.1;omega
 .exact absurd h1 h.2
theorem FC{sz:Nat}{rows:List (List C)}(h:qd (lD sel K H') i hops=some (sz,rows)):
  (xA sel K.length i=none/\qd K i hops=some (sz,rows))\/
  ∃j ob rows0,xA sel K.length i=some j/\H'[j]?=some ob/\qd H' j hops=some (sz,rows0)/\((ob.kind=2/\rows=rows0)\/(ob.kind=1/\hops=[]/\rows=rows0.map (λr=>r.map (vH (jm sel K.length) 9))/\∀r∈rows0,∀c∈r,zB c=true)):=by
 obtain⟨ob',ho',hk',hg'⟩:=ju h;rcases f.get ho' with⟨h1,h2⟩|⟨j,ob,h1,h2,rfl⟩
 .left
  refine⟨h1,?_⟩;unfold qd;rw[h2];simp only;rw[gz hk'];exact hg'
 .right
  obtain⟨kind,ty,sz0,rows0,fz⟩:=ob;rw[(xM _ _).1]at hk';rcases hk' with hk|hk
  .have hk:kind=1:=hk;subst hk
   have hno:∀r∈rows0,∀c∈r,zB c=true:=by
    have:=gE.1 f.hf _ (gu h2);dsimp only at this;simpa [gE] using this
   have hg2:kF sz0 (rows0.map λr=>r.map (vH (jm sel K.length) 9)) hops=some (sz,rows):=hg'
   obtain⟨rfl,e⟩:=DW (λi k c hc=>by
    unfold cellAt at hc;rw[gy]at hc;cases hx:rows0[i]? with
    |none=>rw[hx]at hc;cases hc
    |some r=>
     rw[hx]at hc;simp only[gK,gW,gy]at hc;cases hy:r[k]? with
     |none=>rw[hy]at hc;cases hc
     |some c0=>
      rw[hy]at hc;cases hc
      exact Qp _ 9 (hno r (gu hx) c0 (gu hy))) hg2
   cases e
   exact⟨j,_,rows0,h1,h2,by unfold qd;rw[h2];simp[jc],.inr ⟨rfl,rfl,rfl,hno⟩⟩
  .have hk:kind=2:=hk;subst hk;exact⟨j,_,rows,h1,h2,bQ,.inl ⟨rfl,rfl⟩⟩
theorem Vg:qn w' (lJ E sel K.length H'.length E0) (lD sel K H') where
 n:=by rw[f.len];rfl
 fR i ob' hops sz rows hob' hx:=by
  rcases f.FC hx with⟨h1,h2⟩|⟨j,ob,rows0,h1,h2,h3,h4⟩
  .rcases f.get hob' with⟨_,h3⟩|⟨j,_,h3,_⟩
   rotate_left
   .rw[h1]at h3;cases h3
   have hb:=f.hh.base.fR i ob' hops sz rows h3 h2;obtain⟨cur,e,hg,hcs,hcell⟩:=hb.fR;have hu:=f.Ex h1 h2;refine⟨by rw[f.κ_un h1];exact hb.len,hb.row,cur,e,by rw[f.β_un h1,f.Ij hu];exact hg,by rw[f.κ_un h1];exact hcs,?_⟩;intro i' k c hc;obtain⟨u,hu,ho⟩:=hcell i' k c hc;refine⟨u,hu,?_⟩;unfold jf at ho|-;split at ho
   .rw[f.β_un h1,f.κ_un h1];exact ho
   .exact⟨ho.1.mono (f.Jj.at _),ho.2⟩
  .rcases f.get hob' with⟨h5,_⟩|⟨j2,ob2,h5,h6,rfl⟩
   .rw[h1]at h5;cases h5
   rw[h1]at h5;cases h5
   rw[h2]at h6;cases h6
   have hb:=f.h0.base.fR j ob hops sz rows0 h2 h3;obtain⟨cur,e,hg,hcs,hcell⟩:=hb.fR;rw[(xM _ ob).1];rcases h4 with⟨hk,rfl⟩|⟨hk,rfl,rfl,hno⟩
   .refine⟨by rw[f.κ_in h1];exact hb.len,hb.row,cur,e,by rw[f.β_in h1];exact hg,by rw[f.κ_in h1];exact hcs,?_⟩;intro i' k c hc;obtain⟨u,hu,ho⟩:=hcell i' k c hc;refine⟨u,hu,?_⟩;unfold jf at ho|-;split at ho
    .rw[f.β_in h1,f.κ_in h1];exact ho
    .refine⟨?_,ho.2⟩;have h5:=ho.1;simp only[Env.at,hk,if_true]at h5|-;exact h5.mono f.map.shut
   .refine⟨by rw[f.κ_in h1];simpa using hb.len,?_,cur,e,by rw[f.β_in h1];exact hg,by rw[f.κ_in h1];exact hcs,?_⟩
    .intro r hr;obtain⟨r0,h5,rfl⟩:=gY.1 hr;simpa using hb.row r0 h5
    .intro i' k c hc;unfold cellAt at hc;rw[gy]at hc;cases hx1:rows0[i']? with
     |none=>rw[hx1]at hc;cases hc
     |some r=>
      rw[hx1]at hc;simp only[gK,gW,gy]at hc;cases hy:r[k]? with
      |none=>rw[hy]at hc;cases hc
      |some c0=>
       rw[hy]at hc;cases hc
       obtain⟨u,hu,ho⟩:=hcell i' k c0 (by unfold cellAt;rw[hx1];exact hy);have hn0:=hno r (gu hx1) c0 (gu hy);rw[jf.loose hn0]at ho;refine⟨u,hu,(jf.loose (Qp _ 9 hn0)).2 ⟨?_,ho.2⟩⟩;have h5:=ho.1;have hk2:¬ob.kind=2:=by rw[hk];decide
       simp only[Env.at,gp hk2]at h5|-;exact h5.NR f.map 9
 inj i hops i' hops' x y hx hy he:=by
  rcases f.FC (sz:=x.1) (rows:=x.2) hx with⟨h1,h2⟩|⟨j,ob,rows0,h1,_,h3,_⟩ <;> rcases f.FC (sz:=y.1) (rows:=y.2) hy with⟨k1,k2⟩|⟨j',ob',rows0',k1,_,k3,_⟩
  .rw[f.β_un h1,f.β_un k1]at he;exact f.hh.base.inj i hops i' hops' _ _ h2 k2 he
  .rw[f.β_un h1,f.β_in k1]at he;exact(f.CN (f.Ex h1 h2) (.inl ⟨j',hops',_,k3,he.symm⟩)).elim
  .rw[f.β_in h1,f.β_un k1]at he;exact(f.CN (f.Ex k1 k2) (.inl ⟨j,hops,_,h3,he⟩)).elim
  .rw[f.β_in h1,f.β_in k1]at he;obtain⟨rfl,rfl⟩:=f.h0.base.inj j hops j' hops' _ _ h3 k3 he;exact⟨(f.DQ h1).symm.trans (f.DQ k1),rfl⟩
 qA:=f.h0.base.qA
 sep i hops x o u hx hu:=by
  rcases f.FC (sz:=x.1) (rows:=x.2) hx with⟨h1,h2⟩|⟨j,ob,rows0,h1,h2,h3,_⟩
  .rw[f.β_un h1]at hu;obtain⟨e1,ob,e2,e3⟩:=f.hh.base.sep i hops _ o u h2 (f.Th (f.Ex h1 h2) hu);refine⟨e1,?_⟩;obtain⟨ob',ho',_⟩:=ju hx;refine⟨ob',ho',?_⟩;rcases f.get ho' with⟨_,k2⟩|⟨j,_,k1,_⟩
   .rw[e2]at k2;cases k2;exact e3
   .rw[h1]at k1;cases k1
  .rw[f.β_in h1]at hu;obtain⟨e1,ob2,e2,e3⟩:=f.h0.base.sep j hops _ o u h3 hu;refine⟨e1,?_⟩;obtain⟨ob',ho',_⟩:=ju hx;refine⟨ob',ho',?_⟩;rcases f.get ho' with⟨k1,_⟩|⟨j2,ob3,k1,k2,rfl⟩
   .rw[h1]at k1;cases k1
   .rw[h1]at k1;cases k1
    rw[e2]at k2;cases k2
    obtain⟨l1,l2,l3,l4,l5⟩:=xM (jm sel K.length) ob2;rw[l3,l5];exact e3
 ty i ob' hob' hk:=by
  rcases f.get hob' with⟨h1,h2⟩|⟨j,ob,h1,h2,rfl⟩
  .obtain⟨cur,hc⟩:=f.hh.base.ty i ob' h2 hk;refine⟨cur,?_⟩;have hx:∃x,qd K i []=some x:=⟨(ob'.sz,ob'.rows),by unfold qd;rw[h2];simp[hk,jc]⟩;obtain⟨x,hx⟩:=hx;rw[f.β_un h1,f.Ij (f.Ex h1 hx)];exact hc
  .obtain⟨l1,l2,l3,l4,l5⟩:=xM (jm sel K.length) ob;obtain⟨cur,hc⟩:=f.h0.base.ty j ob h2 (by rw[<-l1];exact hk);exact⟨cur,by rw[f.β_in h1,l2];exact hc⟩
 fz i ob' hob':=by
  rcases f.get hob' with⟨h1,h2⟩|⟨j,ob,h1,h2,rfl⟩
  .exact f.hh.base.fz i ob' h2
  .obtain⟨l1,l2,l3,l4,l5⟩:=xM (jm sel K.length) ob;rw[l4,l5];exact f.h0.base.fz j ob h2
theorem Ed(h:qP (lJ E sel K.length H'.length E0) (lD sel K H') i b):(xA sel K.length i=none/\qP E K i b)\/∃j,xA sel K.length i=some j/\qP E0 H' j b:=by
 obtain⟨ob',cap,h1,h2,h3,h4⟩:=h;rcases f.get h1 with⟨e1,e2⟩|⟨j,ob,e1,e2,rfl⟩
 .left
  rw[f.IZ e1]at h3;exact⟨e1,ob',cap,e2,h2,h3,h4⟩
 .right
  obtain⟨l1,l2,l3,l4,l5⟩:=xM (jm sel K.length) ob;rw[f.IY e1,l4]at h3;rw[l4]at h4;exact⟨j,e1,ob,cap,e2,bR,h3,h4⟩
theorem Lf(h:jQ (lD sel K H') i b):(xA sel K.length i=none/\jQ K i b)\/∃j,xA sel K.length i=some j/\jQ H' j b:=by
 obtain⟨ob',o,t,h1,h2,h3,h4⟩:=h;rcases f.get h1 with⟨e1,e2⟩|⟨j,ob,e1,e2,rfl⟩
 .exact .inl ⟨e1,ob',o,t,e2,h2,h3,h4⟩
 .have hk:ob.kind=4:=by rw[<-(xM (jm sel K.length) ob).1];exact h2
  rw[LK hk]at h3 h4;exact .inr ⟨j,e1,ob,o,t,e2,hk,h3,h4⟩
theorem PW(h:jr (lJ E sel K.length H'.length E0) (lD sel K H') b):(∃id hops x,xA sel K.length id=none/\qd K id hops=some x/\E.β id hops=b)\/jr E0 H' b:=by
 obtain⟨i,hops,⟨sz,rows⟩,hx,rfl⟩:=h;rcases f.FC hx with⟨h1,h2⟩|⟨j,ob,rows0,h1,_,h3,_⟩
 .exact .inl ⟨i,hops,_,h1,h2,(f.β_un h1 hops).symm⟩
 .exact .inr ⟨j,hops,_,h3,(f.β_in h1 hops).symm⟩
theorem fH:nX w' (lJ E sel K.length H'.length E0) (lD sel K H') where
 val i ob' h1 h2:=by
  rcases f.get h1 with⟨e1,e2⟩|⟨j,ob,e1,e2,rfl⟩
  .rw[f.IZ e1];exact f.hh.fH.val i ob' e2 h2
  .obtain⟨l1,l2,l3,l4,l5⟩:=xM (jm sel K.length) ob;rw[f.IY e1,l4];exact f.h0.fH.val j ob e2 bR
 fR i b ob' h1 h2:=by
  rcases f.Ed h1 with⟨k1,k2⟩|⟨j,k1,k2⟩ <;> rcases f.get h2 with⟨e1,e2⟩|⟨j',ob,e1,e2,rfl⟩
  .rw[f.IZ k1,f.Ij (f.Gb k1 k2)];exact f.hh.fH.fR i b ob' k2 e2
  .rw[k1]at e1;cases e1
  .rw[k1]at e1;cases e1
  .rw[k1]at e1;cases e1
   obtain⟨l1,l2,l3,l4,l5⟩:=xM (jm sel K.length) ob;rw[f.IY k1,l2,l3,l4];exact f.h0.fH.fR j b ob k2 e2
 sep i b h1 h2:=by
  rcases f.Ed h1 with⟨k1,k2⟩|⟨j,k1,k2⟩ <;> rcases f.PW h2 with⟨id,hops,x,e1,e2,rfl⟩|e2
  .exact f.hh.fH.sep i _ k2 ⟨id,hops,x,e2,rfl⟩
  .exact f.CN (f.Gb k1 k2) (.inl e2)
  .exact f.CN (f.Ex e1 e2) (.inr ⟨j,.inl k2⟩)
  .exact f.h0.fH.sep j b k2 e2
 inj i i' b h1 h2:=by
  rcases f.Ed h1 with⟨k1,k2⟩|⟨j,k1,k2⟩ <;> rcases f.Ed h2 with⟨e1,e2⟩|⟨j',e1,e2⟩
  .exact f.hh.fH.inj i i' b k2 e2
  .exact(f.CN (f.Gb k1 k2) (.inr ⟨j',.inl e2⟩)).elim
  .exact(f.CN (f.Gb e1 e2) (.inr ⟨j,.inl k2⟩)).elim
  .obtain rfl:=f.h0.fH.inj j j' b k2 e2;exact(f.DQ k1).symm.trans (f.DQ e1)
 st i b ob' o u h1 h2 h3:=by
  rcases f.Ed h1 with⟨k1,k2⟩|⟨j,k1,k2⟩ <;> rcases f.get h2 with⟨e1,e2⟩|⟨j',ob,e1,e2,rfl⟩
  .exact f.hh.fH.st i b ob' o u k2 e2 (f.Th (f.Gb k1 k2) h3)
  .rw[k1]at e1;cases e1
  .rw[k1]at e1;cases e1
  .rw[k1]at e1;cases e1
   obtain⟨l1,l2,l3,l4,l5⟩:=xM (jm sel K.length) ob;rw[l3,l4];exact f.h0.fH.st j b ob o u k2 e2 h3
 top i ob' k u h1 h2 h3:=by
  rcases f.get h1 with⟨e1,e2⟩|⟨j,ob,e1,e2,rfl⟩
  .rw[f.IZ e1]at h3;exact f.hh.fH.top i ob' k u e2 h2 h3
  .obtain⟨l1,l2,l3,l4,l5⟩:=xM (jm sel K.length) ob;rw[f.IY e1]at h3;rw[l4];exact f.h0.fH.top j ob k u e2 bR h3
 iW i ob' o t h1 h2 h3:=by
  rcases f.get h1 with⟨e1,e2⟩|⟨j,ob,e1,e2,rfl⟩
  .obtain⟨⟨p1,p2⟩,p3⟩:=f.hh.fH.iW i ob' o t e2 h2 h3;rw[f.Ij (f.Mo e1 ⟨ob',o,t,e2,h2,h3,rfl⟩)];exact⟨⟨p1,p2⟩,p3.mono f.Jj⟩
  .have hk4:ob.kind=4:=by rw[<-(xM (jm sel K.length) ob).1];exact h2
   rw[LK hk4]at h3;have:=gE.1 f.hf ob (gu e2);rw[hk4,h3.2,h3.1]at this;obtain⟨p1,p2⟩:=f.h0.fH.iW j ob o t e2 hk4 h3;have ht:t.all Dd=true:=aq this
   rw[LK hk4];exact⟨p1,p2.map λys hl=>hl.closed ht ⟨pa _,λ_ _ h=>absurd h (pG _),λ_ _ h=>absurd h (pG _),λ_ _ _ h=>h,λ_ _ _ h=>absurd h (pG _)⟩⟩
 mb i i' b h1 h2:=by
  rcases f.Lf h1 with⟨k1,k2⟩|⟨j,k1,k2⟩ <;> rcases f.Lf h2 with⟨e1,e2⟩|⟨j',e1,e2⟩
  .exact f.hh.fH.mb i i' b k2 e2
  .exact(f.CN (f.Mo k1 k2) (.inr ⟨j',.inr e2⟩)).elim
  .exact(f.CN (f.Mo e1 e2) (.inr ⟨j,.inr k2⟩)).elim
  .obtain rfl:=f.h0.fH.mb j j' b k2 e2;exact(f.DQ k1).symm.trans (f.DQ e1)
theorem grow:Grow w E K w' (lJ E sel K.length H'.length E0) (lD sel K H') where
 le:=f.Jj
 os:=f.g.os
 tape:=f.g.tape
 output:=f.g.output
 size:=f.g.size
 frame k h1 h2:=f.g.frame k h1 λh=>h2 (f.LR h)
 jZ b o u hu:=by
  rcases f.g.jZ b o u hu with h1|h1|h1
  .exact .inl h1
  .exact .inr (.inl h1)
  .exact .inr (.inr (f.LR h1))
 own b hb:=by
  have fin:xF E0 H' b->w.heap.size<=b\/xF E K b:=λh=>(f.g.own b h).imp_right f.LR
  rcases hb with hb|⟨i,hb|hb⟩
  .rcases f.PW hb with⟨id,hops,x,_,e2,e3⟩|h
   .exact .inr (.inl ⟨id,hops,x,e2,e3⟩)
   .exact fin (.inl h)
  .rcases f.Ed hb with⟨_,k2⟩|⟨j,_,k2⟩
   .exact .inr (.inr ⟨i,.inl k2⟩)
   .exact fin (.inr ⟨j,.inl k2⟩)
  .rcases f.Lf hb with⟨_,k2⟩|⟨j,_,k2⟩
   .exact .inr (.inr ⟨i,.inr k2⟩)
   .exact fin (.inr ⟨j,.inr k2⟩)
end Fr
variable {P:Program} {f:FuncId}
def qM.part(sel:List Nat){R:C->zn->Prop}(h:qM P f H0 args0 R)(hR:∀r H',R r H'->qw H'=true)
 (hH:xJ sel K=H0)(ha:args.map (xX sel 9)=args0)(qb:sel.all (λid=>Nat.blt id K.length)=true)(iL:yw sel=true)(iu:qw K=true):
  qM P f K args λr K'=>∃r0 H',R r0 H'/\r=vH (jm sel K.length) 9 r0/\K'=lD sel K H':=λw E vs hh hl=>by
 subst hH ha;refine(h w (E.fL sel) vs (hh.fL sel qb iL iu) (hl.fL λc y hl=>hl.fL sel 9)).mono λe w' ⟨r,H',v,E0,h1,h2,h3,h4,g⟩=>?_
 have fr:Fr w E K sel w' E0 H':=⟨hh,qb,iL,iu,h3,g,hR r H' h1⟩;exact⟨_,_,v,_,⟨r,H',h1,rfl,rfl⟩,h2,⟨fr.Vg,fr.fH⟩,h4.NR fr.map 9,fr.grow⟩
def zb.part(sel:List Nat){K H0 H':zn}{args args0:List C}{r:C}(h:zb P f H0 args0 r H')(hR:qw H'=true)
 (hH:xJ sel K=H0)(ha:args.map (xX sel 9)=args0)(qb:sel.all (λid=>Nat.blt id K.length)=true)(iL:yw sel=true)(iu:qw K=true):
  zb P f K args (vH (jm sel K.length) 9 r) (lD sel K H'):=λw E vs hh hl=>by
 refine((h.lh (R:=λx X=>x=r/\X=H') ⟨rfl,rfl⟩).part sel (λx X e=>e.2 ▸ hR) hH ha qb iL iu w E vs hh hl).mono λe w' ⟨r1,K',v,E',⟨r0,H1,⟨e1,e2⟩,e3,e4⟩,h2⟩=>?_
 subst e1 e2 e3 e4;exact⟨v,E',h2⟩
def zt(sel:List Nat){H':zn}(h:zb P f H0 args0 r H')(hR:qw H'=true)
 (hH:xJ sel K=H0)(ha:args.map (xX sel 9)=args0)(qb:sel.all (λid=>Nat.blt id K.length)=true)(iL:yw sel=true)(iu:qw K=true){k:C->zn->Prop}
 (hk:CO (lD sel K H') λX=>okB (vH (jm sel K.length) 9 r) λc=>k c X):∃r' H2,zb P f K args r' H2/\okB r' λc=>k c H2:=
 ⟨_,_,h.part sel hR hH ha qb iL iu,wJ (k:=λX=>okB (vH (jm sel K.length) 9 r) λc=>k c X) hk⟩
def ah{f:FuncId}{H:zn}{k:C->zn->Prop}{zQ:Prop}(h:zb P f [] args r [])(z0:zQ)(ha:args.all (je 0 9)=true:=by exact V)(ze:zQ->okB r λc=>k c H:=by intro zh;(conv=>whnf);(try apply zz;conv=>whnf);exact zh):∃r H2,zb P f H args r H2/\okB r λc=>k c H2:=⟨_,_,h.frame ha H,ze z0⟩
def af{H':zn}{k:C->zn->Prop}{zQ:Prop}(sel:List Nat)(h:zb P f H0 args0 r H')(z0:zQ)(hR:qw H'=true:=by exact V)(hH:xJ sel K=H0:=by exact V)(ha:args.map (xX sel 9)=args0:=by exact V)(qb:sel.all (λid=>Nat.blt id K.length)=true:=by exact V)(iL:yw sel=true:=by exact V)(iu:qw K=true:=by exact V)(ze:zQ->CO (lD sel K H') λX=>okB (vH (jm sel K.length) 9 r) λc=>k c X:=by intro zh;(conv=>whnf);(try apply zz;conv=>whnf);exact zh):∃r' H2,zb P f K args r' H2/\okB r' λc=>k c H2:=zt sel h hR hH ha qb iL iu (ze z0)
def zt6{K':zn}(h:∀id∈sel,K'[id]?=K[id]?):xJ sel K'=xJ sel K:=by
 unfold xJ;refine pQ λid hid=>?_
 rw[h id hid]
def PM{sel:List Nat}{H':zn}{ρ:Nat->Nat}:∀(K:zn) (k:Nat),(∀(j id:Nat) (o:Ob),sel[j]?=some id->H'[j]?=some o->id<k+K.length->k<=id->K[id-k]?=some (zG ρ o))->(sel.length<=H'.length)->Ar sel H' ρ k K=K
 |[],k,h,hl=>rfl
 |ob::K,k,h,hl=>by
  rw[Ar]
  congr 1
  .split
   .rename_i j hj;have hs:sel[j]?=some k:=by simpa using (yx hj).2
    split
    .rename_i o ho;have:=h j k o hs ho aj (gG _);simpa using this.symm
    .rename_i ho;have h1:=(gh.1 hs).1;rw[pW]at ho;omega
   .rfl
  .refine PM K (k+1) (λj id o h1 h2 h3 h4=>?_) hl;have:=h j id o h1 h2 aA aw
   rwa [show id-k=(id-(k+1))+1 from aw,rB]at this
def zb.blind(sel:List Nat)(h:zb P f H0 args0 r H0)(hR:qw H0=true)
 (hH:xJ sel K=H0)(ha:args.map (xX sel 9)=args0)(qb:sel.all (λid=>Nat.blt id K.length)=true)(iL:yw sel=true)(iu:T.flat=true)(hk:sel.all (AG T.keep)=true)
 (hb:∀n,(sel.map λid=>zG (jm sel n) (zL sel ((K[id]?).getD dead)))=sel.map λid=>(K[id]?).getD dead)(hr:∀n,vH (jm sel n) 9 r=r):∀H2,XC T K H2->zb P f H2 args r H2:=λH2 hx=>by
 have same:∀id∈sel,H2[id]?=K[id]?:=λid hid=>hx.1 id (gE.1 hk id hid)
 have hH2:xJ sel H2=H0:=(zt6 same).trans hH
 have fE:∀id∈sel,∃o,K[id]?=some o/\H2[id]?=some o:=λid hid=>by
  have h1:=gE.1 qb id hid;have h1:id<K.length:=rW h1;exact⟨K[id],aD,by rw[same id hid];simp[h1]⟩
 have h2:=h.part sel (K:=H2) (args:=args) hR hH2 ha (gE.2 λid hid=>by
  obtain⟨o,_,h3⟩:=fE id hid;exact ez (gh.1 h3).1) iL (hx.2 iu)
 rw[hr]at h2;have hlen:H0.length=sel.length:=by rw[<-hH];simp[xJ]
 have e:lD sel H2 H0=H2:=by
  unfold lD;rw[u1 aw,tT,rA];refine PM H2 0 (λj id o h3 h4 h5 _=>?_) aw;obtain⟨o1,h6,h7⟩:=fE id (gu h3);have h8:=rq (·[j]?) (hb H2.length);simp only[gy,h3,gK,h6,Option.getD_some]at h8;rw[<-hH]at h4;simp only[xJ,gy,h3,gK,h6,Option.getD_some]at h4;cases h4
  simp only[rS];rw[h7];exact h8.symm
 rw[e]at h2;exact h2
def ai(sel:List Nat)(h:zb P f H0 args0 r H0)(hR:qw H0=true:=by exact V)(hH:xJ sel K=H0:=by exact V)(ha:args.map (xX sel 9)=args0:=by exact V)(qb:sel.all (λid=>Nat.blt id K.length)=true:=by exact V)(iL:yw sel=true:=by exact V)(iu:T.flat=true:=by exact V)(hk:sel.all (AG T.keep)=true:=by exact V)(hb:∀n,(sel.map λid=>zG (jm sel n) (zL sel ((K[id]?).getD dead)))=sel.map λid=>(K[id]?).getD dead:=by exactλ_=>V)(hr:∀n,vH (jm sel n) 9 r=r:=by exactλ_=>V):∀H2,XC T K H2->zb P f H2 args r H2:=zb.blind sel h hR hH ha qb iL iu hk hb hr
end
end Go.Ab
namespace Go.Ab
variable{i:TypeInfo}{e:TypeId}{α:Type}{ob ob':Ob}{c:Code}{H:zn}{w:World}{E:Env}{ty sz:Nat}{rows:List (List C)}{full:Bool}{P:Program}{f:FuncId}{args t:List C}{K:Exit->List C->zn->Prop}{z u:Value}{ops:Array Oper}{R:S->Prop}{fn:Func}{a:Addr}{cs:List Value}{enc:α->List C}{wf:α->Prop}{fs:Array Field}
def Ky(h:∀r∈ob.rows,∀c∈r,zB c=true){i k:Nat}{c:C}(hc:cellAt ob.rows i k=some c):zB c=true:=by
 unfold cellAt at hc;cases hx:ob.rows[i]? with
 |none=>rw[hx]at hc;cases hc
 |some r=>rw[hx]at hc;exact h r (gu hx) c (gu hc)
def DT{id:Nat}(hob:H[id]?=some ob)(hk:ob.kind=1\/ob.kind=2):qd H id []=some (ob.sz,ob.rows):=by
 unfold qd;rw[hob];simp[hk,jc]
def G6{id:Nat}(hob:H[id]?=some ob)(hk:ob.kind=1\/ob.kind=2)(hno':∀r∈ob'.rows,∀c∈r,zB c=true){id':Nat}{p:List ig}{x:Nat×List (List C)}
 (h:qd (H.set id ob') id' p=some x):(id'≠id/\qd H id' p=some x)\/(id'=id/\p=[]/\x=(ob'.sz,ob'.rows)/\qd H id []=some (ob.sz,ob.rows)):=by
 obtain⟨ob2,ho,hk2,hg⟩:=ju h;by_cases hi:id'=id
 .subst hi
  right
  rw[gJ,gz V,gz (gh.1 hob).1]at ho;cases ho
  obtain⟨rfl,rfl⟩:=DW (λi k c hc=>Ky hno' hc) hg;exact⟨rfl,rfl,rfl,DT hob hk⟩
 .left
  refine⟨hi,?_⟩;rw[gJ,gp (Ne.symm hi)]at ho;unfold qd;rw[ho];simp only[hk2,if_true];exact hg
def qn.FO(h:qn w E H){id:Nat}(hob:H[id]?=some ob)(hk:ob.kind=1\/ob.kind=2)(hk':ob'.kind=1\/ob'.kind=2)
 (hty:ob'.kind=2->∃cur,w.heap[E.β id []]?=some (.cells cur ob'.ty (0,0)))(hsz:ob'.sz=ob.sz)(hfz:ob'.fz=ob.fz)(hlen:ob'.rows.length<=ob.rows.length)(hfz0:ob'.fz<=ob'.rows.length)
 (hrow:∀r∈ob'.rows,r.length=ob.sz)(hno:∀r∈ob.rows,∀c∈r,zB c=true)(hno':∀r∈ob'.rows,∀c∈r,zB c=true)
 (hc:∀(i k:Nat) c c' u,cellAt ob.rows i k=some c->cellAt ob'.rows i k=some c'->L (E.at ob.kind) c u->w.cell? ⟨E.β id [],i*ob.sz+k,none⟩=some u->L (E.at ob'.kind) c' u):qn w E (H.set id ob') where
 n:=aq h.n
 fR id' ob2 p sz' rows' hob2 hx:=by
  rcases G6 hob hk hno' hx with⟨h1,h2⟩|⟨rfl,rfl,h1,h2⟩
  .rw[gJ,gp (Ne.symm h1)]at hob2;exact h.fR id' ob2 p sz' rows' hob2 h2
  .rw[gJ,gz V,gz (gh.1 hob).1]at hob2;cases hob2
   cases h1
   have hb:=h.fR _ _ _ _ _ hob h2;rw[hsz];refine⟨pH hlen hb.len,hrow,?_⟩;obtain⟨cur,e,h3,h4,h5⟩:=hb.fR;refine⟨cur,e,h3,h4,?_⟩;intro i k c' hc';obtain⟨hi,hkk⟩:=Hq hrow hc';obtain⟨c,hc0⟩:=GU hb.row (pN hi hlen) hkk;obtain⟨u,hu,ho⟩:=h5 i k c hc0;refine⟨u,hu,?_⟩;rw[jf.loose (Ky hno hc0)]at ho;rw[jf.loose (Ky hno' hc')];exact⟨hc i k c c' u hc0 hc' ho.1 (by unfold World.cell?;rw[h3];simpa using hu),ho.2⟩
 inj i p j q x y hx hy he:=by
  have key:∀i p x,qd (H.set id ob') i p=some x->∃x',qd H i p=some x':=λi p x hx=>by
   rcases G6 hob hk hno' hx with⟨h1,h2⟩|⟨rfl,rfl,h1,h2⟩
   .exact⟨x,h2⟩
   .exact⟨_,h2⟩
  obtain⟨x',hx'⟩:=key i p x hx;obtain⟨y',hy'⟩:=key j q y hy;exact h.inj i p j q x' y' hx' hy' he
 qA:=h.qA
 sep i p x o u hx hu:=by
  rcases G6 hob hk hno' hx with⟨h1,h2⟩|⟨rfl,rfl,h1,h2⟩
  .obtain⟨e1,ob2,e2,e3⟩:=h.sep i p x o u h2 hu;exact⟨e1,ob2,by rw[gJ,gp (Ne.symm h1)];exact e2,e3⟩
  .obtain⟨e1,ob2,e2,e3⟩:=h.sep _ [] _ o u h2 hu;rw[hob]at e2;cases e2
   exact⟨rfl,ob',by rw[gJ,gz V,gz (gh.1 hob).1],by rw[hfz,hsz];exact e3⟩
 ty i ob2 ho hk2:=by
  rw[gJ]at ho;split at ho
  .rename_i e;subst e;split at ho
   .cases ho;exact hty hk2
   .cases ho
  .exact h.ty i ob2 ho hk2
 fz i ob2 ho:=by
  rw[gJ]at ho;split at ho
  .split at ho
   .cases ho;exact hfz0
   .cases ho
  .exact h.fz i ob2 ho
def qn.Dj(h:qn w E H){id:Nat}(hob:H[id]?=some ob)(hk:ob.kind=1\/ob.kind=2)(hk':ob'.kind=1\/ob'.kind=2)
 (hty:ob'.kind=2->∃cur,w.heap[E.β id []]?=some (.cells cur ob'.ty (0,0)))(hsz:ob'.sz=ob.sz)(hfz:ob'.fz=ob.fz)(hlen:ob'.rows.length=ob.rows.length)
 (hrow:∀r∈ob'.rows,r.length=ob.sz)(hno:∀r∈ob.rows,∀c∈r,zB c=true)(hno':∀r∈ob'.rows,∀c∈r,zB c=true)
 (hc:∀(i k:Nat) c c' u,cellAt ob.rows i k=some c->cellAt ob'.rows i k=some c'->L (E.at ob.kind) c u->w.cell? ⟨E.β id [],i*ob.sz+k,none⟩=some u->L (E.at ob'.kind) c' u):qn w E (H.set id ob'):=
 h.FO hob hk hk' hty hsz hfz (uq hlen) (by rw[hfz,hlen];exact h.fz id _ hob) hrow hno hno' hc
def qC.FO{w:World}{E:Env}{H:zn}(h:qC w E H){id:Nat}{ob ob':Ob}(hob:H[id]?=some ob)(hk:ob.kind=1\/ob.kind=2)(hk':ob'.kind=1\/ob'.kind=2)
 (hty:ob'.kind=2->∃cur,w.heap[E.β id []]?=some (.cells cur ob'.ty (0,0)))(hsz:ob'.sz=ob.sz)(hfz:ob'.fz=ob.fz)(hlen:ob'.rows.length<=ob.rows.length)(hfz0:ob'.fz<=ob'.rows.length)
 (hrow:∀r∈ob'.rows,r.length=ob.sz)(hno:∀r∈ob.rows,∀c∈r,zB c=true)(hno':∀r∈ob'.rows,∀c∈r,zB c=true)
 (hc:∀(i k:Nat) c c' u,cellAt ob.rows i k=some c->cellAt ob'.rows i k=some c'->L (E.at ob.kind) c u->w.cell? ⟨E.β id [],i*ob.sz+k,none⟩=some u->L (E.at ob'.kind) c' u):qC w E (H.set id ob')/\Grow w E H w E (H.set id ob'):=by
 have hR:=h.base.FO hob hk hk' hty hsz hfz hlen hfz0 hrow hno hno' hc
 have hG:qL w E H w E (H.set id ob'):=⟨Env.le.refl E,λ_ _ _=>V,rfl,rfl,rfl,gG _,λ_ _ _=>V,λ_ _ _ h=>.inl h,λb ⟨i,p,x,hx,he⟩=>by
  rcases G6 hob hk hno' hx with⟨h1,h2⟩|⟨rfl,rfl,h1,h2⟩
  .exact .inr ⟨i,p,x,h2,he⟩
  .exact .inr ⟨_,[],_,h2,he⟩⟩
 have hk4:=jL.NL (ob':=ob') hob (by rcases hk with h|h <;> rw[h] <;> decide) (by rcases hk' with h|h <;> rw[h] <;> decide);exact⟨⟨hR,nX.step h hG hk4⟩,hG.up h hk4⟩
def qC.Dj(h:qC w E H){id:Nat}(hob:H[id]?=some ob)(hk:ob.kind=1\/ob.kind=2)(hk':ob'.kind=1\/ob'.kind=2)
 (hty:ob'.kind=2->∃cur,w.heap[E.β id []]?=some (.cells cur ob'.ty (0,0)))(hsz:ob'.sz=ob.sz)(hfz:ob'.fz=ob.fz)(hlen:ob'.rows.length=ob.rows.length)
 (hrow:∀r∈ob'.rows,r.length=ob.sz)(hno:∀r∈ob.rows,∀c∈r,zB c=true)(hno':∀r∈ob'.rows,∀c∈r,zB c=true)
 (hc:∀(i k:Nat) c c' u,cellAt ob.rows i k=some c->cellAt ob'.rows i k=some c'->L (E.at ob.kind) c u->w.cell? ⟨E.β id [],i*ob.sz+k,none⟩=some u->L (E.at ob'.kind) c' u):qC w E (H.set id ob')/\Grow w E H w E (H.set id ob'):=
 h.FO hob hk hk' hty hsz hfz (uq hlen) (by rw[hfz,hlen];exact h.base.fz id _ hob) hrow hno hno' hc
def qC.rowsOf(h:qC w E H){id:Nat}(hob:H[id]?=some ob)(hk:ob.kind=1\/ob.kind=2):∀r∈ob.rows,r.length=ob.sz:=(h.base.fR _ _ _ _ _ hob (DT hob hk)).row
section
variable {B:Nat} {s:S}
def zp.EF(id:Nat)(hob:s.H[id]?=some ⟨2,ty,sz,rows,0⟩)(hno:∀r∈rows,∀c∈r,zB c=true):zp B s ⟨s.tmps,s.H.set id ⟨1,0,sz,rows,0⟩⟩:=λm w E a hs=>by
 have hrow:=hs.heap.rowsOf hob (.inr V)
 obtain⟨hR,g⟩:=hs.heap.Dj hob (.inr V) (ob':=⟨1,0,sz,rows,0⟩) (.inl V) (λh=>by cases h) rfl rfl rfl hrow hno hno λi k c c' u e1 e2 hl _=>by
  rw[e1]at e2;cases e2
  exact hl.mono (by show(E.at 2).le (E.at 1);unfold Env.at;exact E.FW)
 exact⟨E,⟨hR,hs.tmps,hs.defers,aq hs.base⟩,g.iX tB⟩
def qC.Lw(hh:qC w E H){id len kd:Nat}{y:Value}(hl:L E (.sl id [] sz 0 len full) y)(hob:H[id]?=some ⟨kd,ty,sz,rows,0⟩)(hk:kd=1\/kd=2)(hlen:len=rows.length)
 (hsh:∀r∈rows,∀c∈r,xm c=true/\zB c=true):
  ∃E1,qC w E1 (H.set id ⟨1,0,sz,rows,rows.length⟩)/\L E1 (.fF 0 sz rows) y/\Grow w E H w E1 (H.set id ⟨1,0,sz,rows,rows.length⟩):=by
 have hno:∀r∈rows,∀c∈r,zB c=true:=λr h c hc=>(hsh r h c hc).2
 have hrow:=hh.rowsOf hob hk;obtain⟨cur,e,h3,h4,h5⟩:=(hh.base.fR _ _ _ _ _ hob (DT hob hk)).fR
 obtain⟨hR1,g1⟩:=hh.Dj hob hk (ob':=⟨2,e,sz,rows,0⟩) (.inr V) (λ_=>⟨cur,h3⟩) V V V hrow hno hno λi k c c' u e1 e2 hl _=>by
  rw[e1]at e2;cases e2
  unfold cellAt at e1;cases hx:rows[i]? with
  |none=>rw[hx]at e1;cases e1
  |some r=>
   rw[hx]at e1;have hs:=(hsh r (gu hx) c (gu e1)).1;exact(hl.mono (E.Tl kd)).wj hs
 have fE:id<H.length:=(gh.1 hob).1;obtain⟨E1,hR2,hl2,g2⟩:=hR1.OW hl (by rw[gJ,gz V,gz fE]) hlen hno;rw[pA]at hR2 g2
 obtain⟨hR3,g3⟩:=hR2.Dj (id:=id) (ob:=⟨2,e,sz,rows,rows.length⟩) (by rw[gJ,gz V,gz fE]) (.inr V) (ob':=⟨1,0,sz,rows,rows.length⟩) (.inl V) (λh=>by cases h) rfl rfl rfl hrow hno hno λi k c c' u e1 e2 hl _=>by
  rw[e1]at e2;cases e2
  exact hl.mono (by show(E1.at 2).le (E1.at 1);unfold Env.at;exact E1.FW)
 rw[pA]at hR3 g3;refine⟨E1,hR3,?_,(g1.trans g2).trans g3⟩;cases full
 .exact hl2
 .exact WC.share 1 sz rows E1 y hl2
def zp.zV(vid i k:Nat){id len kd vty vsz:Nat}{r:List C}{vrows:List (List C)}(hv:s.H[vid]?=some ⟨1,vty,vsz,vrows,0⟩)(hr:vrows[i]?=some r)(hk:r[k]?=some (.sl id [] sz 0 len full))(hob:s.H[id]?=some ⟨kd,ty,sz,rows,0⟩)
 (hkd:kd=1\/kd=2)(hne:(vid == id)=false)(hlen:len=rows.length)(hsh:∀r∈rows,∀c∈r,xm c=true/\zB c=true)(hno:∀r∈vrows,∀c∈r,zB c=true):
  zp B s ⟨s.tmps,(s.H.set id ⟨1,0,sz,rows,rows.length⟩).set vid ⟨1,vty,vsz,vrows.set i (r.set k (.fF 0 sz rows)),0⟩⟩:=λm w E a hs=>by
 have hne:vid≠id:=aq hne
 obtain⟨cur,e,h3,h4,h5⟩:=(hs.heap.base.fR _ _ _ _ _ hv (DT hv (.inl V))).fR;have hrow:=hs.heap.rowsOf hv (.inl V);obtain⟨u,hu,ho⟩:=h5 i k _ (show cellAt vrows i k=some (.sl id [] sz 0 len full) by unfold cellAt;rw[hr];exact hk);rw[jf.loose V]at ho;have hl:L E (.sl id [] sz 0 len full) u:=aF
 obtain⟨E1,hh1,hl1,g1⟩:=hs.heap.Lw hl hob hkd hlen hsh;have hob1:(s.H.set id ⟨1,0,sz,rows,rows.length⟩)[vid]?=some ⟨1,vty,vsz,vrows,0⟩:=by rw[gJ,gp (Ne.symm hne)];exact hv
 have hβ:E1.β vid []=E.β vid []:=g1.le.β vid [] (by rw[hs.heap.n];exact(gh.1 hv).1)
 have hcu:w.cell? ⟨E1.β vid [],i*vsz+k,none⟩=some u:=by
  unfold World.cell?;rw[hβ,h3];simpa using hu
 have hin:=gu hr;have hset:∀q∈vrows.set i (r.set k (.fF 0 sz rows)),q∈vrows\/q=r.set k (.fF 0 sz rows):=λq hq=>pE hq
 obtain⟨hR,g2⟩:=hh1.Dj hob1 (.inl V) (ob':=⟨1,vty,vsz,vrows.set i (r.set k (.fF 0 sz rows)),0⟩) (.inl V) (λh=>by cases h) rfl rfl aj (λq hq=>by
   rcases hset q hq with h|rfl
   .exact hrow q h
   .simpa using hrow r hin) hno (λq hq c hc=>by
   rcases hset q hq with h|rfl
   .exact hno q h c hc
   .rcases pE hc with h|rfl
    .exact hno r hin c h
    .rfl) λi' k' c c' v e1 e2 hl' hv'=>by
  have hat:∀X:Env,X.at 1=X:=λX=>by simp[Env.at]
  rw[hat]at hl'|-;unfold cellAt at e1 e2;rw[gJ]at e2;split at e2
  .rename_i e;subst e;split at e2
   .simp only[gW]at e2;rw[hr]at e1;simp only[gW]at e1;rw[gJ]at e2;split at e2
    .rename_i e;subst e;split at e2
     .cases e2
      rw[hcu]at hv';cases hv'
      exact hl1
     .cases e2
    .rw[e1]at e2;cases e2
     exact hl'
   .cases e2
  .rw[e1]at e2;cases e2
   exact hl'
 exact dm
def zp.JY(t:Nat){id len kd:Nat}(ht:s.tmps[t]?=some (.sl id [] sz 0 len full))(hob:s.H[id]?=some ⟨kd,ty,sz,rows,0⟩)(hkd:kd=1\/kd=2)(hlen:len=rows.length)
 (hsh:∀r∈rows,∀c∈r,xm c=true/\zB c=true):zp B s ⟨s.tmps.set t (.fF 0 sz rows),s.H.set id ⟨1,0,sz,rows,rows.length⟩⟩:=λm w E a hs=>by
 obtain⟨y,hy,hl⟩:=hs.tmps.get ht;obtain⟨E1,hh1,hl1,g⟩:=hs.heap.Lw hl hob hkd hlen hsh;have h2:=(hs.tmps.mono g.le).set hl1 t;have e:a.tmps.toList.set t y=a.tmps.toList:=xV hy;rw[e]at h2;exact⟨E1,⟨hh1,h2,hs.defers.grow hs.heap g,by have:=hs.base;simpa using this⟩,g.iX tB⟩
def zp.shrink(id:Nat){rows':List (List C)}(hob:s.H[id]?=some ⟨2,ty,sz,rows++rows',0⟩)(hno:∀r∈rows++rows',∀c∈r,zB c=true):zp B s ⟨s.tmps,s.H.set id ⟨2,ty,sz,rows,0⟩⟩:=λm w E a hs=>by
 have hrow:=hs.heap.rowsOf hob (.inr V)
 obtain⟨hR,g⟩:=hs.heap.FO hob (.inr V) (ob':=⟨2,ty,sz,rows,0⟩) (.inr V) (λ_=>hs.heap.base.ty id ⟨2,ty,sz,rows++rows',0⟩ hob V) V V aj (pa _) (λr hr=>hrow r (eG _ hr)) hno (λr hr=>hno r (eG _ hr)) λi k c c' u e1 e2 hl _=>by
  have:cellAt (rows++rows') i k=some c':=by
   unfold cellAt at e2|-;cases hr:rows[i]? with
   |none=>rw[hr]at e2;cases e2
   |some r=>rw[hr]at e2;rw[gF (gh.1 hr).1,hr];exact e2
  rw[e1]at this;cases this
  exact hl
 exact⟨E,⟨hR,hs.tmps,hs.defers.grow hs.heap g,by have:=hs.base;simpa using this⟩,g.iX tB⟩
end
def zb.o7{H1 H2:zn}{r r':C}(h:zb P f H args r H1)(hw:∀B,B<=H.length->B<=H1.length->zp B ⟨[r],H1⟩ ⟨[r'],H2⟩)(hl:H.length<=H2.length):zb P f H args r' H2:=λw E vs hh hl0=>by
 refine(h w E vs hh hl0).mono ?_;rintro e w' ⟨v,E',h1,h2,h3,g⟩;have hHH:H.length<=H1.length:=cb
 obtain⟨E2,hs,g2⟩:=hw H.length (gG _) hHH 0 w' E' ⟨#[v],[]⟩ ⟨h2,LL.one h3,pa _,hHH⟩;have hn2:=hs.heap.n;refine⟨v,E2,h1,hs.heap,hs.tmps.cons_inv.1,⟨⟨by rw[hh.n,hn2];exact hl,λid hops hi=>?_,λid hops hi=>?_,λb o u hu=>g2.le.St _ _ _ (g.le.St _ _ _ hu),λid k u hi hu=>?_⟩,g2.os.trans g.os,g2.tape.trans g.tape,g2.output.trans g.output,pH g.size g2.size,?_,?_,?_⟩⟩
 .rw[hh.n]at hi;exact(g2.le.β id hops hi).trans (g.le.β id hops tN)
 .rw[hh.n]at hi;exact(g2.le.κ id hops hi).trans (g.le.κ id hops tN)
 .rw[hh.n]at hi;exact g2.le.G id k u hi (g.le.G id k u tN hu)
 .intro k hk ho;exact dj
 .intro b o u hu;rcases g2.jZ b o u hu with h1|h1|h1
  .exact g.jZ b o u h1
  .exact .inr (.inl (pH g.size h1))
  .rcases g.own b h1 with h4|h4
   .exact .inr (.inl h4)
   .exact .inr (.inr h4)
 .intro b hb;rcases g2.own b hb with h1|h1
  .exact .inl (pH g.size h1)
  .exact g.own b h1
section
variable {P:Program} {B:Nat}
structure RK(P:Program)(B:Nat)(c:Code)(t:List C)(H:zn)(K:Exit->List C->zn->Prop):Prop where
 out:jb P B c ⟨t,H⟩ λex s=>K ex s.tmps s.H
def RK.n8(h:wpA P B c t H K):RK P B c t H K:=⟨jJ h⟩
def RK.o7{t1:List C}{H1:zn}(hw:zp B ⟨t,H⟩ ⟨t1,H1⟩)(h:RK P B c t1 H1 K):RK P B c t H K:=⟨.pre hw h.out⟩
def RK.seq{x y:Code}{t:List C}{H:zn}{K:Exit->List C->zn->Prop}(h:RK P B x t H λex t1 H1=>match ex with
  |.normal=>RK P B y t1 H1 K
  |ex=>K ex t1 H1):RK P B (.seq x y) t H K:=⟨.seq (h.out.mono λex s1 h1=>by
 cases ex with
 |normal=>exact(show RK P B y s1.tmps s1.H K from h1).out
 |_=>exact h1)⟩
def RK.block{id:Nat}{c:Code}{t:List C}{H:zn}{K:Exit->List C->zn->Prop}(h:RK P B c t H λex t1 H1=>match ex with
  |.exit id'=>if id'=id then K .normal t1 H1 else K (.exit id') t1 H1
  |ex=>K ex t1 H1):RK P B (.block id c) t H K:=⟨.block (h.out.mono λex s1 h1=>by
 cases ex with
 |exit id'=>exact h1
 |_=>exact h1)⟩
structure OK(P:Program)(B:Nat)(ops:Array Oper)(l:List Oper)(t:List C)(H:zn)(R:S->Prop):Prop where
 out:vC P B ops l ⟨t,H⟩ R
def HO{ops:Array Oper}{l':List Oper}{R:S->Prop}:∀{l:List Oper} {t:List C} {H:zn},mM P ops l t H (λt1 H1=>OK P B ops l' t1 H1 R)->vC P B ops (l++l') ⟨t,H⟩ R
 |[],t,H,h=>(show OK P B ops l' t H R from h).out
 |o::l,t,H,h=>by
  rw[Ku]at h;unfold Fi at h;split at h
  .rename_i hw;refine .run (s:=⟨t,H⟩) hw (.Dh (s:=⟨t,H⟩) (HN h)) ?_;rintro s1 ⟨c,H',h1,rfl⟩;exact HO (jG (k:=λt=>mM P ops l t H' λt1 H1=>OK P B ops l' t1 H1 R) h1)
  .rename_i hw;exact .pass (s:=⟨t,H⟩) hw (HO (jG (k:=λt=>mM P ops l t H λt1 H1=>OK P B ops l' t1 H1 R) h))
  .exact c7
def qg.UL(I:Nat->List C->zn->Prop)(n:Nat)(h0:∃t0 H0,zp B ⟨t,H⟩ ⟨t0,H0⟩/\I n t0 H0)
 (step:∀n t H,I n t H->RK P B c t H λe t1 H1=>(e=.normal/\∃m t2 H2,m<n/\zp B ⟨t1,H1⟩ ⟨t2,H2⟩/\I m t2 H2)\/(e≠.normal/\K e t1 H1)):
  Aw P B c t H K:=by
 obtain⟨t0,H0,hw,hI⟩:=h0;refine⟨.pre hw ?_⟩
 suffices key:∀n t H,I n t H->mu P B c (n+1) ⟨t,H⟩ λex s=>K ex s.tmps s.H from⟨n+1,key n t0 H0 hI⟩
 intro n
 induction n using Nat.strongRecOn with
 |_ n ih=>
  intro t H hI;refine .step ((step n t H hI).out.post λex s1 h1=>?_);rcases h1 with⟨rfl,m,t2,H2,hm,hw2,hI2⟩|⟨hne,hK⟩
  .exact⟨⟨t2,H2⟩,hw2,(mu.more aw (ih m hm t2 H2 hI2):mu P B c n ⟨t2,H2⟩ _)⟩
  .refine⟨s1,.refl s1,?_⟩;cases ex with
   |normal=>exact absurd V hne
   |_=>exact hK
def zp.UO(id:Nat){s:S}{z l:Nat}{r:Obj}{t':List C}(hob:s.H[id]?=some (kH z l r t))(hf:Em r=true)(hw:i7 t t'):zp B s ⟨s.tmps,s.H.set id (kH z l r t')⟩:=λm w E a hs=>by
 have hL:=(hs.heap.fH.iW id _ r t hob V ⟨rfl,rfl⟩).1.1;obtain⟨h1,g⟩:=hs.heap.setObj (r':=r) (t':=t') hob hf λh=>h.imp (λhl=>hw.LL hl) λ⟨es,k,e,hl⟩=>⟨es,k,e,hw.LL hl⟩
 have e:w.putObj l r=w:=by
  unfold World.putObj
  have:w.heap.setIfInBounds l r=w.heap:=by
   apply eQ
   intro k;rw[tU];split
   .rename_i hk;subst hk;rw[gz (gM.1 hL).1,hL]
   .rfl
  rw[this]
 rw[e]at h1 g;exact⟨E,⟨h1,hs.tmps,hs.defers.grow hs.heap g,by have:=hs.base;simpa using this⟩,g.iX tB⟩
def zp.zxX(t:Nat){s:S}{id:Nat}{row:List C}(ht:s.tmps[t]?=some (.ref id [] sz 0 0))(hob:s.H[id]?=some ⟨1,ty,sz,[row],0⟩)(hsh:∀c∈row,xm c=true/\zB c=true):
  zp B s ⟨s.tmps.set t (.jy row),s.H.set id ⟨1,0,sz,[row],1⟩⟩:=λm w E a hs=>by
 obtain⟨y,hy,hl⟩:=hs.tmps.get ht
 obtain⟨hn,rfl⟩:id<E.n/\y=.pointer (some ⟨E.β id [],0,none⟩):=by
  cases hl with
  |ref _ _ _ _ _ hn=>exact⟨hn,aj⟩
 have hb:=hs.heap.base.fR _ _ [] sz [row] hob (DT hob (.inl V));have hl0:L E (.sl id [] sz 0 1 false) (.slice (some ⟨E.β id [],0*sz,none⟩) 1 (E.κ id [])):=.sl id [] sz 0 1 false (E.κ id []) hn hb.len (λh=>by cases h) (λ_=>gU _);obtain⟨E1,hh1,hl1,g⟩:=hs.heap.Lw hl0 hob (.inl V) V λr hr=>by rw[gZ.1 hr];exact hsh
 have hl2:L E1 (.jy row) (.pointer (some ⟨E.β id [],0,none⟩)):=by
  rw[sL]at hl1;generalize hv:Value.slice (some ⟨E.β id [],0,none⟩) 1 (E.κ id [])=v at hl1;cases hl1 with
  |fF o sz rows b off cap us ho hc hsz hst hL=>
   cases hv
   refine .jy row _ _ (us 0) (λk c hk=>?_) (λk c hk=>hL 0 row k c V hk);have:=hst 0 row k c V hk;simpa using this
 have h2:=(hs.tmps.mono g.le).set hl2 t;have e:a.tmps.toList.set t (.pointer (some ⟨E.β id [],0,none⟩))=a.tmps.toList:=xV hy;rw[e]at h2;exact⟨E1,⟨hh1,h2,hs.defers.grow hs.heap g,by have:=hs.base;simpa using this⟩,g.iX tB⟩
def vC.LJ{o3 o4:Oper}{d:Tmp}{ty:TypeId}{y:Operand}{row zero:List C}{inf:TypeInfo}
 (h3:o3.op=.alloc ty)(hd:o3.dst=some d)(hw3:jt ops t o3=some true)(h4:o4.op=.store ty (.tmp d) y)(hd4:o4.dst=none)(hw4:jt ops (put t (some d) (.ref H.length [] zero.length 0 0)) o4=some true)
 (hz:ox P ty=some zero)(hi:P.info? ty=some inf)(hsz:inf.size=row.length)(hlen:zero.length=row.length)(hzo:zero.all zB=true)(hy:y≠.tmp d)(hrow:ev t y=.agg row)(hsh:∀c∈row,xm c=true/\zB c=true)(hdl:d<t.length)
 (hB:B<=H.length)(hrl:zW H.length H=true)(htl:(put t (some d) (.jy row)).map (xH H.length 9)=put t (some d) (.jy row))(hR:R ⟨put t (some d) (.jy row),H⟩):
  vC P B ops [o3,o4] ⟨t,H⟩ λs=>∃s2,zp B s s2/\R s2:=by
 have a3:fO P o3 (ev t) H (.ref H.length [] zero.length 0 0) (H++[⟨1,ty,zero.length,[zero],0⟩]):=.EN (.alloc ty h3 hz) _ (by show(1:Nat)≠4;decide) V;refine .run (s:=⟨t,H⟩) hw3 (Ax.Dh (s:=⟨t,H⟩) (a3.lh (R:=λc X=>c=.ref H.length [] zero.length 0 0/\X=H++[⟨1,ty,zero.length,[zero],0⟩]) ⟨rfl,rfl⟩)) ?_;rintro _ ⟨_,_,⟨rfl,rfl⟩,rfl⟩;rw[hd];have hgb:qd (H++[⟨1,ty,zero.length,[zero],0⟩]) H.length []=some (zero.length,[zero]):=by simp[qd,kF]
 have hst:vq P (H++[⟨1,ty,zero.length,[zero],0⟩]) ty (.ref H.length [] zero.length 0 0) (.agg row)=some (H++[⟨1,ty,zero.length,[row],0⟩]):=by
  unfold vq;rw[hi];dsimp only;rw[hgb,show(H++[⟨1,ty,zero.length,[zero],0⟩]:zn)[H.length]?=some ⟨1,ty,zero.length,[zero],0⟩ from aj];dsimp only;rw[show([zero]:List (List C))[0]?=some zero from V];dsimp only;have h1:nr (.agg row)=true:=gE.2 λc hc=>(hsh c hc).2
  rw[gz]
  .congr 1
   unfold nP;apply pC
   intro j;rw[pZ];by_cases hj:j<H.length
   .rw[gF hj,gF hj];cases H[j]? with
    |none=>rfl
    |some x=>simp[show ¬H.length=j from aw]
   .by_cases hj2:j=H.length
    .subst hj2;simp[ql,wv,C.cells,hlen,yh]
    .rw[pM aA,pM aA]
     rfl
  .simp only[gH,rD,pT,gR,C.cells];refine⟨⟨⟨⟨⟨⟨⟨?_,h1⟩,hsz.symm⟩,?_⟩,?_⟩,?_⟩,?_⟩,?_⟩
   .trivial
   .simp[hlen]
   rotate_left
   .simp
   .simp
   .simp
   refine gE.2 λc hc=>gE.1 hzo c (sa (rH hc))
 have e1:ev (put t (some d) (.ref H.length [] zero.length 0 0)) (.tmp d)=.ref H.length [] zero.length 0 0:=by
  unfold ev put;simp[hdl]
 have e2:ev (put t (some d) (.ref H.length [] zero.length 0 0)) y=.agg row:=by
  rw[<-hrow];exact Io λd' hd'=>by cases hd';exact hy
 have a4:fO P o4 (ev (put t (some d) (.ref H.length [] zero.length 0 0))) (H++[⟨1,ty,zero.length,[zero],0⟩]) .un (H++[⟨1,ty,zero.length,[row],0⟩]):=by
  have h0:qU P o4 (ev (put t (some d) (.ref H.length [] zero.length 0 0))) (H++[⟨1,ty,zero.length,[zero],0⟩]) .un (H++[⟨1,ty,zero.length,[row],0⟩]):=.store ty (.tmp d) y h4 (by rw[e1,e2];exact hst);refine .Bp h0 ?_;have:=J0 (P:=P) hst;exact dG
 refine .run hw4 (Ax.Dh (a4.lh (R:=λc X=>c=.un/\X=H++[⟨1,ty,zero.length,[row],0⟩]) ⟨rfl,rfl⟩)) ?_;rintro _ ⟨_,_,⟨rfl,rfl⟩,rfl⟩;rw[hd4];refine .nil ⟨⟨put t (some d) (.jy row),H⟩,?_,hR⟩;have w1:=zp.zxX (B:=B) d (s:=⟨put t (some d) (.ref H.length [] zero.length 0 0),H++[⟨1,ty,zero.length,[row],0⟩]⟩) (id:=H.length) (sz:=zero.length) (ty:=ty) (row:=row) (by unfold put;simp[hdl]) aj hsh;have e3:(put t (some d) (.ref H.length [] zero.length 0 0)).set d (.jy row)=put t (some d) (.jy row):=by unfold put;simp
 have e4:(H++[⟨1,ty,zero.length,[row],0⟩]:zn).set H.length ⟨1,0,zero.length,[row],1⟩=H++[⟨1,0,zero.length,[row],1⟩]:=aj
 dsimp only at w1;rw[e3,e4]at w1;refine w1.trans ?_;have w2:=zp.low (B:=B) H.length (put t (some d) (.jy row)) (H++[⟨1,0,zero.length,[row],1⟩]) (ez hB) (ez aj) (by rw[sZ (gG _),pI];exact hrl);rw[htl,sZ (gG _),pI]at w2;exact w2
def RK.P0{id:Nat}(l l':List Oper)(hops:ops.toList=l++l')(h:mM P ops l t H λt1 H1=>OK P B ops l' t1 H1 λs=>K .normal s.tmps s.H):RK P B (.region id ops false) t H K:=by
 refine⟨.region ?_⟩;rw[hops];exact HO h
def OK.LJ{ops:Array Oper}{o3 o4:Oper}{d:Tmp}{ty:TypeId}{y:Operand}{row zero:List C}{t:List C}{H:zn}{c:Code}{K:Exit->List C->zn->Prop}{inf:TypeInfo}
 (h3:o3.op=.alloc ty)(hd:o3.dst=some d)(hw3:jt ops t o3=some true)(h4:o4.op=.store ty (.tmp d) y)(hd4:o4.dst=none)(hw4:jt ops (put t (some d) (.ref H.length [] zero.length 0 0)) o4=some true)
 (hz:ox P ty=some zero)(hi:P.info? ty=some inf)(hsz:inf.size=row.length)(hlen:zero.length=row.length)(hzo:zero.all zB=true)(hy:y≠.tmp d)(hrow:ev t y=.agg row)(hsh:∀c∈row,xm c=true/\zB c=true)(hdl:d<t.length)
 (hB:B<=H.length)(hrl:zW H.length H=true)(htl:(put t (some d) (.jy row)).map (xH H.length 9)=put t (some d) (.jy row))(hR:RK P B c (put t (some d) (.jy row)) H K):
  OK P B ops [o3,o4] t H λs=>RK P B c s.tmps s.H K:=by
 have h:=vC.LJ (P:=P) (B:=B) (R:=λs=>RK P B c s.tmps s.H K) h3 hd hw3 h4 hd4 hw4 hz hi hsz hlen hzo hy hrow hsh hdl hB hrl htl hR;exact⟨λq m w E a Q hs hq=>h q m w E a Q hs λs w' E' a' ⟨s2,hw,hr⟩ h1 g1=>hq s w' E' a' (.o7 hw hr) h1 g1⟩
def RK.cond{c:Operand}{x y:Code}{b:Bool}{t:List C}{H:zn}{K:Exit->List C->zn->Prop}(hc:ev t c=.v (.bool b))(h:RK P B (if b then x else y) t H K):RK P B (.cond c x y) t H K:=⟨.cond (s:=⟨t,H⟩) hc h.out⟩
def OK.nil{ops:Array Oper}{t:List C}{H:zn}{R:S->Prop}(h:R ⟨t,H⟩):OK P B ops [] t H R:=⟨.nil h⟩
def OK.run{ops:Array Oper}{o:Oper}{l:List Oper}{t:List C}{H:zn}{R:S->Prop}(hw:jt ops t o=some true)(h:jK P o (ev t) H λc H'=>OK P B ops l (put t o.dst c) H' R):OK P B ops (o::l) t H R:=
 ⟨.run (s:=⟨t,H⟩) hw (.Dh (s:=⟨t,H⟩) h) (by rintro s1 ⟨c,H',h1,rfl⟩;exact h1.out)⟩
def OK.app(l l':List Oper)(h:mM P ops l t H λt1 H1=>OK P B ops l' t1 H1 R):OK P B ops (l++l') t H R:=⟨HO h⟩
variable {o:Oper} {ρ:Operand->C} {H:zn}
def fO.MC(x:Operand)(ho:o.op=.move x\/o.op=.assign x):fO P o ρ H (ρ x) H:=.same <|.move x ho
def fO.WS(cl:Call)(ho:o.op=.call cl)(x y:Operand)(ht:Bf P cl x y e i z)(hx:ρ x=.fF 1 sz rows)(hsz:rows=[]\/sz=i.size)
 {rows':List (List C)}(hy:xU H (Ab.iA (ρ y))=some (i.size,rows'))(hne:rows'≠[])(hm:rows.length+rows'.length<=maxLen)(hb:(rows.length+rows'.length)*i.bytes<=140737488355328):
  fO P o ρ H (.sl H.length [] i.size 0 (rows.length+rows'.length) false) (H++[⟨2,e,i.size,rows++rows',0⟩]):=
 .iA (ρ:=ρ) (.EN (.Pr cl ho x y ht (by rw[hx];rfl) hsz hy hne hm hb) _ (λe=>by cases e) rfl)
def fO.XO(cl:Call)(ho:o.op=.call cl)(x y:Operand)(ht:Bf P cl x y e i z){id n:Nat}(hx:ρ x=.sl id [] i.size 0 n false)(hob:H[id]?=some ob)
 (hkd:ob.kind=2)(hty:ob.ty=e)(hsz:ob.sz=i.size)(hn:ob.rows.length=n)(hno:ob.rows.all (·.all zB)=true)
 {rows':List (List C)}(hy:xU H (Ab.iA (ρ y))=some (i.size,rows'))(hne:rows'≠[])(hm:n+rows'.length<=maxLen)(hb:(n+rows'.length)*i.bytes<=140737488355328):
  fO P o ρ H (.sl H.length [] i.size 0 (n+rows'.length) false) (jT H id++[⟨2,e,i.size,ob.rows++rows',ob.fz⟩]):=
 .iA (ρ:=ρ) (.Bp (.Qv cl ho x y ht (by rw[hx];rfl) hob hkd hty hsz hn hno hy hne hm hb) (jL.trans (jL.jT H id λob' h'=>by rw[hob]at h';cases h';rw[hkd];decide) (jL.push _ _ (λe=>by cases e))))
def zX(sel:List Nat)(Kx:zn){K H0 H':zn}{args0:List C}{r rx:C}(h:zb P f H0 args0 r H')(hR:qw H'=true)
 (hH:xJ sel K=H0)(ha:args.map (xX sel 9)=args0)(qb:sel.all (λid=>Nat.blt id K.length)=true)(iL:yw sel=true)(iu:qw K=true){k:C->zn->Prop}
 (hp:lD sel K H'=Kx)(hr:vH (jm sel K.length) 9 r=rx)(hk:okB rx λc=>k c Kx):∃r H2,zb P f K args r H2/\okB r λc=>k c H2:=
 ⟨_,_,h.part sel hR hH ha qb iL iu,by rw[hp,hr];exact hk⟩
end
def zb.CC{r:C}(hf:P.funcs[f]?=some fn)(hb:fn.body=some c)
 (h:jb P 0 c ⟨entry fn args,[]⟩ λex s=>(ex=.ret\/ex=.normal)/\∃s2,zp 0 s s2/\(wa P fn s2).map (xH 0 9)=some r):zb P f [] args r []:=by
 refine qM.Ma (qM.AP (H:=[]) hf hb (h.mono λex s1 ⟨hex,s2,hw,h2⟩=>?_));cases h3:wa P fn s2 with
 |none=>rw[h3]at h2;cases h2
 |some r0=>
  rw[h3]at h2;cases h2
  exact⟨hex,s2,r0,hw,h3,rfl⟩
def E0(w:World):Env:=
 {n:=0,β:=λ_ _=>0,κ:=λ_ _=>0,St:=λb o=>match w.cell? ⟨b,o,none⟩ with|some u=>if u.oneCell' then some u else none|none=>none}
def Ti{b o:Nat}:(E0 w).St b o=some u↔w.cell? ⟨b,o,none⟩=some u/\u.oneCell'=true:=by
 unfold E0;dsimp only;cases h:w.cell? ⟨b,o,none⟩ with
 |none=>simp
 |some v=>
  dsimp only;split
  .rename_i h1;constructor
   .intro e;cases e;exact⟨rfl,h1⟩
   .rintro⟨e,_⟩;exact e
  .rename_i h1;constructor
   .intro e;cases e
   .rintro⟨e,h2⟩;cases e;exact absurd h2 h1
def zxs(w:World):qC w (E0 w) [] where
 base:=⟨rfl,aj,by simp[qd],λb o u h=>Ti.1 h,by simp[qd],aj,aj⟩
 fH:=⟨aj,aj,λid b ⟨ob,_,h,_⟩=>by simp at h,λ_ _ b ⟨ob,_,h,_⟩=>by simp at h,aj,aj,aj,λ_ _ b ⟨ob,_,_,h,_⟩=>by simp at h⟩
def fits(P:Program){H:Type}(t:TypeId)(d:DataW H):Prop:=(d.weights P t).all (·<=reachBytes)=true
def qy(P:Program)(t:TypeId)(enc:α->List C)(wf:α->Prop):Prop:=
 ∀{H:Type} (eH:TypeId×Value->H) (w:World) (fuel:Nat) (cs:List Value) (d:DataW H) (ps:List MemPlace),
  DataW.trod eH P w 0 (λ_=>true) true fuel t cs=some (d,ps)->fits P t d->∃x,wf x/\LL (E0 w) (enc x) cs/\∀u∈cs,u.oneCell'=true
section
variable {P:Program} {t:TypeId}
def qy.int{k:IntKind}(ht:P.underlying t=some (.int k)):qy P t (λn:Int=>[.v (.int k n)]) (λn=>(Lit.int k n).wf=true):=by
 intro H eH w fuel cs d ps h _;cases fuel with
 |zero=>cases h
 |succ fuel=>
  rcases cs with _|⟨v,_|⟨v2,r⟩⟩
  .simp[DataW.trod,ht]at h
  .cases v <;> simp[DataW.trod,ht]at h
   obtain⟨⟨rfl,hw⟩,_⟩:=h;exact⟨_,hw,.one (.v _ V),cm⟩
  .simp[DataW.trod,ht]at h
def qy.bool(ht:P.underlying t=some .bool):qy P t (λb:Bool=>[.v (.bool b)]) (λ_=>True):=by
 intro H eH w fuel cs d ps h _;cases fuel with
 |zero=>cases h
 |succ fuel=>
  rcases cs with _|⟨v,_|⟨v2,r⟩⟩
  .simp[DataW.trod,ht]at h
  .cases v <;> simp[DataW.trod,ht]at h
   exact⟨_,trivial,.one (.v _ V),cm⟩
  .simp[DataW.trod,ht]at h
def qy.string(ht:P.underlying t=some .string):qy P t (λs:ByteArray=>[.v (.string s)]) (λs=>s.size<=reachBytes):=by
 intro H eH w fuel cs d ps h hf;cases fuel with
 |zero=>cases h
 |succ fuel=>
  rcases cs with _|⟨v,_|⟨v2,r⟩⟩
  .simp[DataW.trod,ht]at h
  .cases v <;> simp[DataW.trod,ht]at h
   obtain⟨_,rfl,_⟩:=h;refine⟨_,?_,.one (.v _ V),cm⟩;simpa [fits,DataW.weights] using hf
  .simp[DataW.trod,ht]at h
def zuX(ha:a.spot=none){n:Nat}(h:w.cells? 0 a n=some cs):cs.length=n/\∀(j:Nat) u,cs[j]?=some u->w.cell? ⟨a.block,a.off+j,none⟩=some u:=by
 unfold World.cells? at h;rw[gz (pa _)]at h
 have key:∀(m k:Nat) (cs:List Value),((List.range' k m).mapM λi=>w.cell? (a.add i))=some cs->cs.length=m/\∀(j:Nat) u,cs[j]?=some u->w.cell? (a.add (k+j))=some u:=by
  intro m
  induction m with
  |zero=>intro k cs h;simp at h;subst h;simp
  |succ m ih=>
   intro k cs h;rw[List.range'_succ,tw]at h;cases h1:w.cell? (a.add k) with
   |none=>rw[h1]at h;cases h
   |some u0=>
    rw[h1]at h;cases h2:((List.range' (k+1) m).mapM λi=>w.cell? (a.add i)) with
    |none=>rw[h2]at h;cases h
    |some r=>
     rw[h2]at h;cases h
     obtain⟨h3,h4⟩:=ih (k+1) r h2;refine⟨bU,?_⟩;intro j u hj;cases j with
     |zero=>simp at hj;subst hj;exact h1
     |succ j=>simp at hj;have:=h4 j u hj;rw[show k+1+j=k+(j+1) by omega]at this;exact dG
 rw[ub]at h;obtain⟨h1,h2⟩:=key n 0 cs h;refine⟨h1,λj u hj=>?_⟩;have:=h2 j u hj;rw[gU]at this;unfold Addr.add at this;split at this
 .rename_i hj0;subst hj0;obtain⟨b,o,sp⟩:=a;cases ha;exact dG
 .exact dG
def Hd{β:Type}{f:Nat->Option β}:∀{n k:Nat} {xs:List β},(List.range' k n).mapM f=some xs->xs.length=n/\∀(j:Nat) x,xs[j]?=some x->f (k+j)=some x
 |0,k,xs,h=>by simp at h;subst h;simp
 |n+1,k,xs,h=>by
  rw[List.range'_succ,tw]at h;cases h1:f k with
  |none=>rw[h1]at h;cases h
  |some u0=>
   rw[h1]at h;cases h2:(List.range' (k+1) n).mapM f with
   |none=>rw[h2]at h;cases h
   |some r=>
    rw[h2]at h;cases h
    obtain⟨h3,h4⟩:=Hd h2;refine⟨bU,?_⟩;intro j u hj;cases j with
    |zero=>simp at hj;subst hj;exact h1
    |succ j=>simp at hj;have:=h4 j u hj;rw[show k+1+j=k+(j+1) by omega]at this;exact dG
def zsI(h:w.cell? a=some u):a.spot=none:=by
 unfold World.cell? at h;split at h
 .split at h
  .cases h
  .rename_i hs;simpa using hs
 .cases h
def Py{n:Nat}(h:w.cells? 0 a n=some cs)(hn:0<n):a.spot=none:=by
 unfold World.cells? at h;rw[gz (pa _),ub]at h;obtain⟨h1,h2⟩:=Hd h;have h3:cs[0]?=some cs[0]:=by simp[h1,hn]
 have:=h2 0 _ h3;simp[Addr.add]at this;exact zsI this
def N7{H:Type}{e:TypeId}:∀{l:List (DataW H)} {d:DataW H},d∈l->∀n∈d.weights P e,n∈DataW.weightsAll P e l
 |d0::l,d,hd,n,hn=>by
  simp only[DataW.weightsAll,pw];rcases rJ.1 hd with rfl|hd
  .exact .inl hn
  .exact .inr (N7 hd n hn)
def qy.slice{e:TypeId}{α:Type}{enc:α->List C}{wf:α->Prop}(ht:P.underlying t=some (.slice e)){sz by_:Nat}(hc:P.cellsOf e=sz)(hb:P.bytesOf e=by_)(hpos:0<sz)(hsz:∀x,(enc x).length=sz)
 (h:qy P e enc wf):qy P t (λl:List α=>[.fF 0 sz (l.map enc)]) (λl=>(∀x∈l,wf x)/\l.length*by_<=reachBytes):=by
 subst hc;subst hb;intro H eH w fuel cs d ps hr hf;cases fuel with
 |zero=>cases hr
 |succ fuel=>
  rcases cs with _|⟨v,_|⟨v2,r⟩⟩
  .simp[DataW.trod,ht]at hr
  rotate_left
  .simp[DataW.trod,ht]at hr
  have nil:∀a,∃x:List α,((∀y∈x,wf y)/\x.length*P.bytesOf e<=reachBytes)/\LL (E0 w) [.fF 0 (P.cellsOf e) (x.map enc)] [.slice a 0 0]/\∀u∈[Value.slice a 0 0],u.oneCell'=true:=λa=>
   ⟨[],⟨aj,aj⟩,.one (.xE 0 _ (.inl V) a),cm⟩
  cases v with
  |slice a len cap=>
   cases a with
   |none=>
    by_cases hz:len=0/\cap=0
    .obtain⟨rfl,rfl⟩:=hz;exact nil none
    .exfalso
     unfold DataW.trod at hr;rw[ht]at hr;dsimp only at hr;split at hr <;> simp_all
   |some a=>
    simp only[DataW.trod,ht]at hr;split at hr
    rotate_left
    .cases hr
    rename_i hbound;rw[ub]at hr;simp only[ub,if_true]at hr;cases h1:(List.range' 0 len).mapM λi=>(w.cells? 0 (a.add (i*P.cellsOf e)) (P.cellsOf e)).bind (DataW.trod eH P w 0 (λ_=>true) true fuel e) with
    |none=>rw[h1]at hr;cases hr
    |some elems=>
     rw[h1]at hr;simp only[gW]at hr;cases h2:(List.range' 0 (cap-len)).mapM λj=>(w.cells? 0 (a.add ((len+j)*P.cellsOf e)) (P.cellsOf e)).bind (DataW.trod eH P w 0 (λ_=>true) true fuel e) with
     |none=>rw[h2]at hr;cases hr
     |some rest=>
      rw[h2]at hr;simp only[gK,gX,Prod.mk.injEq]at hr;obtain⟨rfl,_⟩:=hr;obtain⟨l1,g1⟩:=Hd h1;obtain⟨l2,g2⟩:=Hd h2;by_cases hz:cap=0
      .have hl0:len=0:=by omega
       subst hz;subst hl0;exact nil (some a)
      .have hspot:a.spot=none:=by
        by_cases hl:len=0
        .have h3:rest[0]?=some (rest[0]'aw):=gk _;have h4:=g2 0 _ h3;subst hl;simp only[gU,sL]at h4;cases h5:w.cells? 0 (a.add 0) (P.cellsOf e) with
         |none=>rw[h5]at h4;cases h4
         |some cs=>have:=Py h5 hpos;simpa [Addr.add] using this
        .have h3:elems[0]?=some (elems[0]'aw):=gk _;have h4:=g1 0 _ h3;simp only[gU,sL]at h4;cases h5:w.cells? 0 (a.add 0) (P.cellsOf e) with
         |none=>rw[h5]at h4;cases h4
         |some cs=>have:=Py h5 hpos;simpa [Addr.add] using this
       have hfw:=hf;simp only[fits,DataW.weights,ht,r7,uj,gH,gR]at hfw;obtain⟨hf1,hf2,_⟩:=hfw
       have each:∀i,i<len->∃x,wf x/\∃cs,w.cells? 0 (a.add (i*P.cellsOf e)) (P.cellsOf e)=some cs/\LL (E0 w) (enc x) cs/\∀u∈cs,u.oneCell'=true:=by
        intro i hi;have h3:elems[i]?=some elems[i]:=by simp[l1,hi]
        have h4:=g1 i _ h3;rw[gU]at h4;cases h5:w.cells? 0 (a.add (i*P.cellsOf e)) (P.cellsOf e) with
        |none=>rw[h5]at h4;cases h4
        |some cs=>
         rw[h5]at h4
         obtain⟨x,hx1,hx2,hx3⟩:=h eH w fuel cs elems[i].1 elems[i].2 h4 (by
          unfold fits;rw[gE];intro n hn;refine gE.1 hf2 n (N7 ?_ n hn);simp only[gY];exact⟨elems[i],aj,rfl⟩)
         exact⟨x,hx1,cs,rfl,hx2,hx3⟩
       have pick:∃xs:List α,xs.length=len/\∀(i:Nat) x,xs[i]?=some x->wf x/\∃cs,w.cells? 0 (a.add (i*P.cellsOf e)) (P.cellsOf e)=some cs/\LL (E0 w) (enc x) cs/\∀u∈cs,u.oneCell'=true:=by
        clear h1 h2 l1 l2 g1 g2 hf hf1 hf2
        clear hbound nil
        induction len with
        |zero=>exact⟨[],rfl,aj⟩
        |succ n ih=>
         obtain⟨xs,hx1,hx2⟩:=ih (λi hi=>each i aw);obtain⟨x,hx3⟩:=each n aw;refine⟨xs++[x],by simp[hx1],?_⟩;intro i y hy;by_cases hi:i<n
         .rw[gF aw]at hy;exact hx2 i y hy
         .rw[gP aw]at hy
          have:i-xs.length=0:=by
           have:=(gh.1 hy).1;exact dc
          rw[this]at hy;cases hy
          obtain rfl:i=n:=aw
          exact hx3
       obtain⟨xs,hx1,hx2⟩:=pick;refine⟨xs,⟨λx hx=>?_,?_⟩,.one ?_,cm⟩
       .obtain⟨i,hi⟩:=gI.1 hx;exact(hx2 i x hi).1
       .rw[hx1];have:len*P.bytesOf e<=cap*P.bytesOf e:=p7 _ hbound.2.1;simp[l1,l2]at hf1;have e1:len+(cap-len)=cap:=by omega
        rw[e1]at hf1;omega
       .obtain⟨b,off,sp⟩:=a;cases hspot
        have cell:∀i r k c,(xs.map enc)[i]?=some r->r[k]?=some c->∃u,(E0 w).St b (off+i*P.cellsOf e+k)=some u/\L (E0 w) c u:=by
         intro i r k c hr hc;rw[gy]at hr;cases hxi:xs[i]? with
         |none=>rw[hxi]at hr;cases hr
         |some x=>
          rw[hxi]at hr;cases hr
          obtain⟨_,cs,e1,e2,e3⟩:=hx2 i x hxi;obtain⟨u,hu,hl⟩:=e2.get hc;obtain⟨_,hcell⟩:=zuX (a:=(⟨b,off,none⟩:Addr).add (i*P.cellsOf e)) (by unfold Addr.add;split <;> rfl) e1;have:=hcell k u hu;rw[xY]at this;exact⟨u,Ti.2 ⟨this,e3 u (gu hu)⟩,hl⟩
        have hlen:(xs.map enc).length=len:=by simp[hx1]
        have:=L.fF (E:=E0 w) 0 (P.cellsOf e) (xs.map enc) b off cap (λi k=>((E0 w).St b (off+i*P.cellsOf e+k)).getD undef) (.inl V) (by rw[hlen];exact hbound.2.1) ?_ ?_ ?_
        .rw[hlen]at this;exact dG
        .intro r hr;obtain⟨x,_,rfl⟩:=gY.1 hr;exact hsz x
        .intro i r k c h5 h6;obtain⟨u,hu,_⟩:=cell i r k c h5 h6;rw[hu];rfl
        .intro i r k c h5 h6;obtain⟨u,hu,hl⟩:=cell i r k c h5 h6;rw[hu];exact hl
  |_=>
   unfold DataW.trod at hr;rw[ht]at hr;simp at hr
def qy.map{β:Type}{enc':β->List C}{wf':β->Prop}(h:qy P t enc wf)(g:α->β)(hg:∀a,wf a->wf' (g a)/\enc' (g a)=enc a):qy P t enc' wf':=by
 intro H eH w fuel cs d ps hr hf;obtain⟨x,h1,h2,h3⟩:=h eH w fuel cs d ps hr hf;exact⟨g x,(hg x h1).1,by rw[(hg x h1).2];exact h2,h3⟩
def jq(P:Program)(fs:List Field)(off:Nat)(enc:α->List C)(wf:α->Prop):Prop:=
 ∀{H:Type} (eH:TypeId×Value->H) (w:World) (fuel:Nat) (cs:List Value) (xs:List (DataW H×List MemPlace)),
  (fs.mapM λf=>DataW.trod eH P w 0 (λ_=>true) true fuel f.type ((cs.drop f.offset).take (P.cellsOf f.type)))=some xs->
  (DataW.weightsEach P (fs.map (·.type)) (xs.map (·.1))).all (·<=reachBytes)=true->cs.length=off+(fs.map λf=>P.cellsOf f.type).sum->∃x,wf x/\LL (E0 w) (enc x) (cs.drop off)/\∀u∈cs.drop off,u.oneCell'=true
def jq.nil(off:Nat):jq P [] off (λ_:Unit=>[]) (λ_=>True):=by
 intro H eH w fuel cs xs _ _ hl;simp at hl;rw[u1 aw];exact⟨(),trivial,LL.nil,aj⟩
def jq.cons{f:Field}{fs:List Field}{off:Nat}{β:Type}{enc':β->List C}{wf':β->Prop}(ho:f.offset=off)(h:qy P f.type enc wf)(h':jq P fs (off+P.cellsOf f.type) enc' wf'):
  jq P (f::fs) off (λx:α×β=>enc x.1++enc' x.2) (λx=>wf x.1/\wf' x.2):=by
 intro H eH w fuel cs xs hm hf hl;rw[tw]at hm;cases h1:DataW.trod eH P w 0 (λ_=>true) true fuel f.type ((cs.drop f.offset).take (P.cellsOf f.type)) with
 |none=>rw[h1]at hm;cases hm
 |some x1=>
  rw[h1]at hm;cases h2:(fs.mapM λf=>DataW.trod eH P w 0 (λ_=>true) true fuel f.type ((cs.drop f.offset).take (P.cellsOf f.type))) with
  |none=>rw[h2]at hm;cases hm
  |some r=>
   rw[h2]at hm;cases hm
   simp only[pP,DataW.weightsEach,uj,gH]at hf;obtain⟨a,a1,a2,a3⟩:=h eH w fuel _ x1.1 x1.2 h1 hf.1;obtain⟨b,b1,b2,b3⟩:=h' eH w fuel cs r h2 hf.2 (by simp at hl|-;omega);rw[ho]at a2 a3
   have e:cs.drop off=(cs.drop off).take (P.cellsOf f.type)++cs.drop (off+P.cellsOf f.type):=by
    rw[<-List.drop_drop,sC]
   refine⟨(a,b),⟨a1,b1⟩,?_,?_⟩
   .rw[e];exact a2.append b2
   .rw[e];intro u hu;rcases pw.1 hu with hu|hu
    .exact a3 u hu
    .exact b3 u hu
def qy.struct(ht:P.underlying t=some (.struct fs))(hc:P.cellsOf t=(fs.toList.map λf=>P.cellsOf f.type).sum)(h:jq P fs.toList 0 enc wf):qy P t enc wf:=by
 intro H eH w fuel cs d ps hr hf;cases fuel with
 |zero=>cases hr
 |succ fuel=>
  unfold DataW.trod at hr;rw[ht]at hr;dsimp only at hr;split at hr
  .rename_i hl;cases h2:(fs.toList.mapM λf=>DataW.trod eH P w 0 (λ_=>true) true fuel f.type ((cs.drop f.offset).take (P.cellsOf f.type))) with
   |none=>rw[h2]at hr;cases hr
   |some xs=>
    rw[h2]at hr;cases hr
    obtain⟨x,h3,h4,h5⟩:=h eH w fuel cs xs h2 (by simpa [fits,DataW.weights,ht] using hf) (by rw[hl,hc];simp);exact⟨x,h3,aq h4,aq h5⟩
  .cases hr
def Ly(P:Program)(t:TypeId)(c:α->C)(wf:α->Prop):Prop:=
 ∀{H:Type} (eH:TypeId×Value->H) (w:World) (base:Nat) (v:Value) (d:DataW H) (ps:List MemPlace),Value.okWide P w .any base t v->
  DataW.Trod eH P w 0 (λ_=>true) true t v d ps->fits P t d->∃x,wf x/\L (E0 w) (c x) v
def qy.zsy(ht:P.underlying t=some (.struct fs))(h:qy P t enc wf):Ly P t (λx=>.agg (enc x)) wf:=by
 intro H eH w base v d ps hv hd hf;simp only[Value.okWide,ht]at hv;obtain⟨cs,rfl,_⟩:=hv;obtain⟨fuel,hd⟩:=hd;obtain⟨x,h1,h2,h3⟩:=h eH w fuel _ d ps hd hf;exact⟨x,h1,.agg _ cs (by simpa [Value.cells] using h2.1) (λi c y e1 e2=>h2.2 i c y e1 (by simpa [Value.cells] using e2)) (λu hu=>h3 u (by simpa [Value.cells] using hu))⟩
def OpenArgs(P:Program)(ts:List TypeId)(c:α->List C)(wf:α->Prop):Prop:=
 ∀{H:Type} (eH:TypeId×Value->H) (w:World) (base:Nat) (vs:List Value) (ds:List (DataW H)) (ps:List MemPlace),(∀(j:Nat) t v,ts[j]?=some t->vs[j]?=some v->Value.okWide P w .any base t v)->
  DataW.TrodAll eH P w 0 (λ_=>true) true ts vs ds ps->(DataW.weightsEach P ts ds).all (·<=reachBytes)=true->∃x,wf x/\LL (E0 w) (c x) vs
def OpenArgs.nil:OpenArgs P [] (λ_:Unit=>[]) (λ_=>True):=by
 intro H eH w base vs ds ps _ h _
 match vs,ds,h with
 |[],[],_=>exact⟨(),trivial,LL.nil⟩
def OpenArgs.cons{ts:List TypeId}{α β:Type}{c:α->C}{wf:α->Prop}{cs:β->List C}{wf':β->Prop}(h:Ly P t c wf)(h':OpenArgs P ts cs wf'):
  OpenArgs P (t::ts) (λx:α×β=>c x.1::cs x.2) (λx=>wf x.1/\wf' x.2):=by
 intro H eH w base vs ds ps hv hd hf
 match vs,ds,hd with
 |v::vs,d::ds,⟨p,q,h1,h2,_⟩=>
  simp only[DataW.weightsEach,uj,gH]at hf;obtain⟨a,a1,a2⟩:=h eH w base v d p (hv 0 t v V V) h1 hf.1;obtain⟨b,b1,b2⟩:=h' eH w base vs ds q (λj t' v' e1 e2=>hv (j+1) t' v' (aq e1) uZ) h2 hf.2;exact⟨(a,b),⟨a1,b1⟩,LL.cons a2 b2⟩
end
def Od{P:Program}{H:Type}{eH:TypeId×Value->H}(hl:laidOutB P=true){W W':World}{sp':Nat->Bool}:∀{ts:List TypeId} {vs:List Value} {ds:List (DataW H)} {ps:List MemPlace},
  ts.all (λt=>P.readableRec t && decide (t<P.types.size))=true->DataW.TrodAll eH P W 0 (λ_=>true) true ts vs ds ps->(∀p∈ps,W.sameAt W' p)->(∀p∈ps,sp' p.block=true)->DataW.TrodAll eH P W' 0 sp' true ts vs ds ps
 |[],[],[],ps,_,h,_,_=>h
 |t::ts,v::vs,d::ds,ps,hts,⟨p,q,h1,h2,e⟩,hsame,hs=>by
  subst e;simp only[r7,gH,gR]at hts;exact⟨p,q,WideElems.Trod_stays hl hts.1.1 hts.1.2 h1 (λx hx=>hsame x cp) (λx hx=>hs x cp),Od hl hts.2 h2 (λx hx=>hsame x cp) (λx hx=>hs x cp),rfl⟩
def Wl{w':World}{E':Env}(g:Grow w E [] w' E' []):RowKit.Below w.heap.size w w':=
 ⟨g.os,g.tape,g.output,g.size,λk hk=>g.frame k hk xF.none⟩
def OP{P:Program}{H:Type}{eH:TypeId×Value->H}{w:World}{b:Nat}{sp:Nat->Bool}{hd:Bool}:∀{ts:List TypeId} {vs:List Value} {ds:List (DataW H)} {ps:List MemPlace},DataW.TrodAll eH P w b sp hd ts vs ds ps->ds.length=ts.length
 |[],[],[],_,_=>rfl
 |_::_,_::_,_::_,_,⟨_,_,_,h,_⟩=>by simp[OP h]
def law_close{s:ChangeSpec}{H:Type}{eH:TypeId×Value->H}{W:World}{base:Nat}{args:Array Value}{ds gs:List (DataW H)}{before:List MemPlace}{tb:TypeId}{c:α->List C}
 (hl:laidOutB P=true)(hts:fn.params.toList.all (λt=>P.readableRec t && decide (t<P.types.size))=true)(hres:fn.resultTypes= #[tb])(htb:P.underlying tb=some .bool)(hvars:s.vars=[])
 (hspec:∀ds:List (DataW H),ds.length=fn.params.toList.length->s.fn H (ds++[])={results:=[.lit (.bool true)],args:=ds})
 (hval:∀(j:Nat) t v,fn.params[j]?=some t->args[j]?=some v->Value.okWide P W .any base t v)
 (hW:DataW.Whole eH P fn.params.toList s.vars false W args.toList ds gs before)
 (hsz:(DataW.weightsEach P (fn.params.toList++s.plain.varTypes P) (ds++gs)).all (·<=reachBytes)=true)
 (hop:OpenArgs P fn.params.toList c wf)(hs:∀x,wf x->zb P f [] (c x) (.v (.bool true)) []):
  Calls P f args W λe W'=>∃v,e=.returned v/\s.post eH P fn false true false false W args v W':=by
 have hW':=hW;obtain⟨p,q,hA,hV,rfl,hfz,iL⟩:=hW;rw[hvars]at hV;obtain⟨rfl,rfl⟩:=ChangeShapes.trodVars_none hV;have hvt:s.plain.varTypes P=[]:=by simp[DataSpec.varTypes,ChangeSpec.plain,hvars]
 rw[hvt]at hsz;simp only[rA]at hsz;have fE:=hW'.lt;obtain⟨x,hx,hL⟩:=hop eH W base args.toList ds p (λj t v e1 e2=>hval j t v (aq e1) uZ) hA hsz;refine(hs x hx W (E0 W) args (zxs W) hL).mono ?_;rintro e W' ⟨v,E',rfl,_,hv,g⟩;have hb:=Wl g;obtain rfl:v=.bool true:=by cases hv;rfl
 have hlen:=OP hA;have hsp:=hspec ds hlen;refine⟨_,rfl,ds,[],p++[],[],p,[],hW',?_,?_,?_,?_,λh=>by cases h⟩
 .rw[hsp,hres];exact⟨[],[],RowKit.shut_bool htb _,rfl,rfl⟩
 .rw[hsp];exact Od hl hts hA (λx hx=>hb.same (fE x (aq hx))) (λx hx=>by simpa using fE x (aq hx))
 .rw[hsp,hvars]
  rfl
 .exact hb.frame _
end Go.Ab
namespace Go.Hy
open Go.Ab
abbrev fK:=List UInt8
abbrev I(n:Int):C:=.v (.int .i64 n)
abbrev U(n:Int):C:=.v (.int .u64 n)
abbrev Bo(b:Bool):C:=.v (.bool b)
abbrev Tx(s:fK):C:=.v (.string ⟨⟨s⟩⟩)
def encI(n:Int):List C:=[I n]
def j4(n:Int):List C:=[U n]
def w6(b:Bool):List C:=[Bo b]
def qx(s:fK):List C:=[Tx s]
abbrev lI(l:List Int):C:=.fF 0 1 (l.map encI)
abbrev lU(l:List Int):C:=.fF 0 1 (l.map j4)
abbrev lB(l:List Bool):C:=.fF 0 1 (l.map w6)
abbrev lT(l:List fK):C:=.fF 0 1 (l.map qx)
def i64(n:Int):Prop:= -9223372036854775808<=n/\n<=9223372036854775807
def u64(n:Int):Prop:=0<=n/\n<=18446744073709551615
instance (n:Int):Decidable (i64 n):=by unfold i64;infer_instance
instance (n:Int):Decidable (u64 n):=by unfold u64;infer_instance
structure fS where
 version:Int
 at_:Int
 gone:Bool
def xz(r:fS):List C:=[I r.version,I r.at_,Bo r.gone]
abbrev lR(l:List fS):C:=.fF 0 3 (l.map xz)
def fS.ok(r:fS):Prop:=i64 r.version/\i64 r.at_
structure fT where
 name:fK
 drain:Bool
 zj:Int
 closed:Bool
def qO(l:fT):List C:=[Tx l.name,Bo l.drain,I l.zj,Bo l.closed]
abbrev lL(l:List fT):C:=.fF 0 4 (l.map qO)
def fT.ok(l:fT):Prop:=l.name.length<=reachBytes/\i64 l.zj
structure En where
 head:Int
 next:List Int
 zj:Int
def zE(e:En):List C:=[U e.head,lI e.next,I e.zj]
abbrev lE(l:List En):C:=.fF 0 3 (l.map zE)
def En.ok(e:En):Prop:=u64 e.head/\((∀x∈e.next,i64 x)/\e.next.length<=17592186043904)/\i64 e.zj
structure Gr where
 zx:Int
 ends : List En
def zK(g:Gr):List C:=[U g.zx,lE g.ends]
abbrev lG(l:List Gr):C:=.fF 0 2 (l.map zK)
structure ij where
 name:fK
 x9:Int
 ye:Int
 zS:List Bool
def vo(c:ij):List C:=[Tx c.name,I c.x9,I c.ye,lB c.zS]
abbrev lC(l:List ij):C:=.fF 0 4 (l.map vo)
structure oL where
 listen:fK
 host:fK
 path:fK
 zg:fK
def lW(r:oL):List C:=[Tx r.listen,Tx r.host,Tx r.path,Tx r.zg]
abbrev lO(l:List oL):C:=.fF 0 4 (l.map lW)
structure iq where
 zc:List fK
 zO:List oL
 zo:List ij
def Ae(c:iq):List C:=[lT c.zc,lO c.zO,lC c.zo]
structure mX where
 listen:Int
 host:fK
 path:fK
 zg:Int
def vQ(r:mX):List C:=[I r.listen,Tx r.host,Tx r.path,I r.zg]
abbrev mE(l:List mX):C:=.fF 0 4 (l.map vQ)
structure Sna where
 zc:List fK
 rules:List mX
 zo:List ij
def encS(s:Sna):List C:=[lT s.zc,mE s.rules,lC s.zo]
structure fI where
 snap:Sna
 zq:List Gr
 qX:Bool
def zM(v:fI):List C:=encS v.snap++[lG v.zq,Bo v.qX]
abbrev lV(l:List fI):C:=.fF 0 5 (l.map zM)
structure Wor where
 zl:Int
 current:Int
 lock:Int
 pins:List Int
 ze:List fI
 zc:List fT
 counts:List (List Int)
 zm:List fS
def zQ(r:List Int):List C:=[lU r]
abbrev iG(l:List (List Int)):C:=.fF 0 1 (l.map zQ)
def yC(w:Wor):List C:=[I w.zl,I w.current,I w.lock,lI w.pins,lV w.ze,lL w.zc,iG w.counts,lR w.zm]
structure fQ where
 kind:Int
 listen:fK
 host:fK
 path:fK
 d0:Int
 d1:Int
 n:Int
 config:iq
def yW(o:fQ):List C:=[I o.kind,Tx o.listen,Tx o.host,Tx o.path,I o.d0,I o.d1,I o.n]++Ae o.config
abbrev lP(l:List fQ):C:=.fF 0 10 (l.map yW)
structure Ah where
 c0:Int
 c1:Int
 c2:Int
 c3:Int
 c4:Int
 c5:Int
def CZ(x:Ah):List C:=[U x.c0,U x.c1,U x.c2,U x.c3,U x.c4,U x.c5]
structure fN where
 kind:Int
 version:Int
 zg:Int
 end_ : Int
 slot:Int
 listen:Int
 n:Int
 counts:Ah
def xx(a:fN):List C:=[I a.kind,I a.version,I a.zg,I a.end_,I a.slot,I a.listen,I a.n]++CZ a.counts
abbrev lA(l:List fN):C:=.fF 0 13 (l.map xx)
structure fD where
 op:fQ
 zf:Int
 pc:Int
 zl:Int
 version:Int
 listen:Int
 zg:Int
 end_ : Int
 other:Int
 slot:Int
 word:Int
 link:Int
 i:Int
 k:Int
 sum:Int
 done:Bool
 answer:fN
 counts:Ah
def mJ(m:fD):List C:=yW m.op++[I m.zf,I m.pc,I m.zl,I m.version,I m.listen,I m.zg,I m.end_,I m.other,I m.slot,U m.word,I m.link,I m.i,I m.k,I m.sum,Bo m.done]++xx m.answer++CZ m.counts
structure fG where
 zf:Int
 op:Int
 access:Int
 cell:Int
 version:Int
 qX:Bool
 value:Int
 q9:Bool
 jd:Bool
 done:Bool
 answer:fN
def xv(e:fG):List C:=[I e.zf,I e.op,I e.access,I e.cell,I e.version,Bo e.qX,I e.value,Bo e.q9,Bo e.jd,Bo e.done]++xx e.answer
abbrev mC(l:List fG):C:=.fF 0 23 (l.map xv)
structure Cal where
 zf:Int
 op:Int
 from_:Int
 jd:Int
 iv:Int
 answer:fN
def jR(c:Cal):List C:=[I c.zf,I c.op,I c.from_,I c.jd,I c.iv]++xx c.answer
abbrev Bb(l:List Cal):C:=.fF 0 18 (l.map jR)
structure fU where
 first:iq
 threads:List (List fQ)
 zJ:List Int
def xy(l:List fQ):List C:=[lP l]
abbrev DB(l:List (List fQ)):C:=.fF 0 1 (l.map xy)
def w7(s:fU):List C:=Ae s.first++[DB s.threads,lI s.zJ]
abbrev iO(w:Wor)(m:fD)(v:fI)(i:Nat):List (List C):=(w.ze.map zM).set m.version.toNat ((encS v.snap++[C.sl i [] 2 0 v.zq.length false,Bo v.qX]))
abbrev iK(m:fD)(v:fI)(g:Gr)(t:Int)(i:Nat):List (List C):=(v.zq.map zK).set m.zg.toNat ([U t,C.sl i [] 3 0 g.ends.length false])
abbrev iD(m:fD)(g:Gr)(e:En)(h:Int)(i:Nat)(a:Int):List (List C):=(g.ends.map zE).set m.end_.toNat ([U h,C.sl i [] 1 0 e.next.length false,I a])
abbrev l7(w:Wor)(i:Nat):List C:=[I w.zl,I w.current,I w.lock,lI w.pins,.sl i [] 5 0 w.ze.length false,lL w.zc,iG w.counts,lR w.zm]
abbrev oM(x:fD):Ob:=⟨1,68,44,[mJ x],0⟩
abbrev oW(x:Wor):Ob:=⟨1,38,8,[yC x],0⟩
abbrev oE(x:fG):Ob:=⟨1,77,23,[xv x],0⟩
abbrev oS(x:fU):Ob:=⟨1,30,5,[w7 x],0⟩
abbrev oD(x:En):Ob:=⟨1,168,3,[zE x],0⟩
abbrev oC(x:ij):Ob:=⟨1,111,4,[vo x],0⟩
abbrev hE(w:Wor)(x m:fD)(v:fI)(g:Gr)(e:En)(t h a:Int)(r:List Ob):List Ob:=⟨1,38,8,[(l7 w 2)],0⟩::oM x::⟨1,0,5,iO w m v 3,0⟩::⟨1,0,2,iK m v g t 4,0⟩::⟨1,0,3,iD m g e h 5 a,0⟩::⟨2,3,1,e.next.map encI,0⟩::r
abbrev oN(e:En):Ob:=⟨2,3,1,e.next.map encI,0⟩
abbrev iY(i:Nat)(v:fI):List C:=encS v.snap++[C.sl i [] 2 0 v.zq.length false,Bo v.qX]
abbrev ia(i:Nat)(e:En):List C:=[U e.head,C.sl i [] 1 0 e.next.length false,I e.zj]
abbrev im(i:Nat)(g:Gr):List C:=[U g.zx,C.sl i [] 3 0 g.ends.length false]
abbrev mH(i:Nat)(w:Wor):List C:=[I w.zl,I w.current,I w.lock,lI w.pins,lV w.ze,lL w.zc,.sl i [] 1 0 w.counts.length false,lR w.zm]
abbrev nG(i:Nat)(w:Wor):List C:=[I w.zl,I w.current,I w.lock,lI w.pins,lV w.ze,.sl i [] 4 0 w.zc.length false,iG w.counts,lR w.zm]
abbrev oP:List C:=[I 0,I 0,I 0,.fF 1 0 [],.fF 1 0 [],.fF 1 0 [],.fF 1 0 [],.fF 1 0 []]
end Go.Hy
namespace Go.Ab
abbrev tj:=zb Go.Proofs.Tryz.prog
end Go.Ab
