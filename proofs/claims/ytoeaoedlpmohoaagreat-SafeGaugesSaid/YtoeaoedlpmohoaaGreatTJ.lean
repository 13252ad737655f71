import Derived.Test.YtoeaoedlpmohoaaGreatProg
import Derived.SizedLaws
import Derived.ProofKit
import Derived.Carry
import Derived.Test.YtoeaoedlpmohoaaGreatTC
import Derived.Test.YtoeaoedlpmohoaaGreatTA
set_option linter.all false
set_option maxRecDepth 100000
set_option maxHeartbeats 4000000
namespace Go.Ab
def vn(ρ:Nat->Nat):Nat->C->C
 |0,_=>.za
 |k+1,c=>match c with
  |.ref id hops sz i j=>.ref (ρ id) hops sz i j
  |.sl id hops sz lo len full=>.sl (ρ id) hops sz lo len full
  |.mp id=>.mp (ρ id)
  |.gl id sz rows=>.gl (ρ id) sz rows
  |.ig t c=>.ig t (vn ρ k c)
  |.rc r=>.rc r
  |.agg cs=>.agg (cs.map (vn ρ k))
  |.fq cs=>.fq (cs.map (vn ρ k))
  |.fn f first caps=>.fn f (first.map (vn ρ k)) (caps.map (vn ρ k))
  |.v x=>.v x
  |.fh o sz rows=>.fh o sz rows
  |.jt cells=>.jt cells
  |.un=>.un
  |.za=>.za
structure GR(E E':Env)(ρ:Nat->Nat):Prop where
 n:∀id,id<E.n->ρ id<E'.n
 β:∀id hops,id<E.n->E'.β (ρ id) hops=E.β id hops
 κ:∀id hops,id<E.n->E'.κ (ρ id) hops=E.κ id hops
 G:∀id k,id<E.n->E'.G (ρ id) k=E.G id k
 St:E'.St=E.St
def GR.shut{E E':Env}{ρ:Nat->Nat}(h:GR E E' ρ):E.shut.le E'.shut:=
 ⟨gC _,λid hops hi=>absurd hi (pz _),λid hops hi=>absurd hi (pz _),λb o u hu=>by show E'.St b o=_;rw[h.St];exact hu,λid _ _ hi=>absurd hi (pz _)⟩
def L.P9{E E':Env}{ρ:Nat->Nat}(h:GR E E' ρ):∀(k:Nat) {c:C} {y:Value},L E c y->L E' (vn ρ k c) y:=by
 intro k
 induction k with
 |zero=>intro c y _;exact .za y
 |succ k ih=>
  intro c y hl;cases hl with
  |v x hx=>exact .v _ hx
  |fh o sz rows b off cap us ho hc hsz hst hL=>
   exact .fh o sz rows b off cap us ho hc hsz (λi r k c e1 e2=>by rw[h.St];exact hst i r k c e1 e2) (λi r k c e1 e2=>(hL i r k c e1 e2).mono h.shut)
  |xx o sz ho a=>exact .xx o sz ho a
  |jt cells b off us hst hL=>exact .jt cells b off us (λk c e1=>by rw[h.St];exact hst k c e1) (λk c e1=>(hL k c e1).mono h.shut)
  |ref id hops sz i j hn=>
   have:=L.ref (E:=E') (ρ id) hops sz i j (h.n id hn);rw[h.β id hops hn]at this;exact dG
  |sl id hops sz lo len full cap hn hlen hf hf'=>
   have:=L.sl (E:=E') (ρ id) hops sz lo len full cap (h.n id hn) hlen hf (λe=>by rw[h.κ id hops hn];exact hf' e);rw[h.β id hops hn]at this;exact dG
  |mp id hn=>
   have:=L.mp (E:=E') (ρ id) (h.n id hn);rw[h.β id [] hn]at this;exact dG
  |agg cs ys h1 h2 h3=>
   have:=LL.fx (f:=vn ρ k) (E':=E') (cs:=cs) (ys:=ys.toList) ⟨aq h1,λi c y e1 e2=>h2 i c y e1 uY⟩ (λc y hl=>ih hl);exact dB
  |fq cs ys h1 h2=>
   have:=LL.fx (f:=vn ρ k) (E':=E') (cs:=cs) (ys:=ys.toList) ⟨aq h1,λi c y e1 e2=>h2 i c y e1 uY⟩ (λc y hl=>ih hl);exact .fq _ ys (aq this.1) (λi c y e1 e2=>this.2 i c y e1 uY)
  |fn f first caps ys zs h1 h2 h3 h4=>
   have t1:=LL.fx (f:=vn ρ k) (E':=E') (cs:=first) (ys:=ys.toList) ⟨aq h1,λi c y e1 e2=>h3 i c y e1 uY⟩ (λc y hl=>ih hl);have t2:=LL.fx (f:=vn ρ k) (E':=E') (cs:=caps) (ys:=zs.toList) ⟨aq h2,λi c y e1 e2=>h4 i c y e1 uY⟩ (λc y hl=>ih hl);exact dJ
  |un=>exact .un
  |za y=>exact .za y
  |gl id sz rows y hn hg hl=>exact .gl (ρ id) sz rows y (h.n id hn) (by rw[h.G id _ hn];exact hg) (hl.mono h.shut)
  |ig t c y hl=>exact .ig t _ y (ih hl)
def ME(ρ:Nat->Nat)(k:Nat){c:C}(h:zx c=true):zx (vn ρ k c)=true:=by
 cases k with
 |zero=>rfl
 |succ k=>cases c <;> first|exact h|rfl
def zG(ρ:Nat->Nat)(ob:Ob):Ob:=
 match ob with
 |⟨kind,ty,sz,rows,fz⟩=>match kind with
  |2=>⟨2,ty,sz,rows,fz⟩
  |4=>⟨4,ty,sz,rows,fz⟩
  |kd=>⟨kd,ty,sz,rows.map λr=>r.map (vn ρ 9),fz⟩
def xF(ρ:Nat->Nat)(ob:Ob):(zG ρ ob).kind=ob.kind/\(zG ρ ob).ty=ob.ty/\(zG ρ ob).sz=ob.sz/\(zG ρ ob).rows.length=ob.rows.length/\(zG ρ ob).fz=ob.fz:=by
 obtain⟨kind,ty,sz,rows,fz⟩:=ob;unfold zG;dsimp only;split <;> simp
def Jm{ρ:Nat->Nat}{ob:Ob}(h:ob.kind=4):zG ρ ob=ob:=by
 obtain⟨kind,ty,sz,rows,fz⟩:=ob;cases h
 rfl
def jf(sel:List Nat)(n id:Nat):Nat:=match sel[id]? with
 |some x=>x
 |none=>n+(id-sel.length)
def xu(sel:List Nat)(n i:Nat):Option Nat:=match posOf sel 0 i with
 |some j=>some j
 |none=>if i<n then none else some (sel.length+(i-n))
def oF(sel:List Nat)(H':zm)(ρ:Nat->Nat):Nat->zm->zm
 |_,[]=>[]
 |i,ob::K=>(match posOf sel 0 i with
  |some j=>match H'[j]? with
   |some o=>zG ρ o
   |none=>dead
  |none=>ob)::oF sel H' ρ (i+1) K
def wC(sel:List Nat)(K H':zm):zm:=oF sel H' (jf sel K.length) 0 K++(H'.drop sel.length).map (zG (jf sel K.length))
def Ik(sel:List Nat)(H':zm)(ρ:Nat->Nat):∀(i:Nat) (K:zm),(oF sel H' ρ i K).length=K.length
 |_,[]=>rfl
 |i,_::K=>by simp[oF,Ik sel H' ρ (i+1) K]
def Ng(sel:List Nat)(H':zm)(ρ:Nat->Nat):∀(k:Nat) (K:zm) (i:Nat),(oF sel H' ρ k K)[i]?=(K[i]?).map λob=>match posOf sel 0 (k+i) with
  |some j=>match H'[j]? with
   |some o=>zG ρ o
   |none=>dead
  |none=>ob
 |_,[],i=>by simp[oF]
 |k,ob::K,0=>by simp[oF]
 |k,ob::K,i+1=>by
  rw[oF,pZ,pZ,Ng sel H' ρ (k+1) K i,show k+1+i=k+(i+1) from aw]
def HK:∀{sel:List Nat} {k id:Nat},posOf sel k id=none->∀j:Nat,sel[j]?≠some id
 |[],k,id,_,j,h=>by simp at h
 |x::xs,k,id,h,j,e=>by
  unfold posOf at h;split at h
  ·cases h
  ·rename_i hx;cases j with
   |zero=>simp at e;exact hx (by simp[e])
   |succ j=>exact HK h j (aq e)
def U6{sel:List Nat}{id j:Nat}(iw:yl sel=true)(h:sel[j]?=some id):posOf sel 0 id=some j:=by
 cases e:posOf sel 0 id with
 |none=>exact absurd h (HK e j)
 |some i=>
  obtain⟨_,h2⟩:=ym e;rw[rM]at h2;rw[kY iw i j id h2 h]
section
variable {w w':World} {E E0:Env} {K H':zm} {sel:List Nat}
structure Fr(w:World)(E:Env)(K:zm)(sel:List Nat)(w':World)(E0:Env)(H':zm):Prop where
 hh:qA w E K
 z8:sel.all (λid=>Nat.blt id K.length)=true
 iw:yl sel=true
 fW:qt K=true
 h0:qA w' E0 H'
 g:Grow w (E.fx sel) (xC sel K) w' E0 H'
 hf:qt H'=true
def iS(E:Env)(sel:List Nat)(n m:Nat)(E0:Env):Env where
 n:=n+(m-sel.length)
 β i hops:=match xu sel n i with
  |some j=>E0.β j hops
  |none=>E.β i hops
 κ i hops:=match xu sel n i with
  |some j=>E0.κ j hops
  |none=>E.κ i hops
 St:=E0.St
 G i k:=match xu sel n i with
  |some j=>E0.G j k
  |none=>E.G i k
namespace Fr
variable (f:Fr w E K sel w' E0 H')
include f
theorem le:sel.length<=H'.length:=by
 have:=f.g.le.n;rw[f.h0.n]at this;exact dG
theorem lt{i id:Nat}(h:sel[i]?=some id):id<K.length:=by
 have:=gz.1 f.z8 id (dY h);simpa [fg] using this
theorem QU{j:Nat}(hj:j<H'.length):xu sel K.length (jf sel K.length j)=some j:=by
 unfold jf xu;cases h:sel[j]? with
 |some x=>simp only;rw[U6 f.iw h]
 |none=>
  simp only;have h1:sel.length<=j:=pV.1 h
  have h2:posOf sel 0 (K.length+(j-sel.length))=none:=by
   cases e:posOf sel 0 (K.length+(j-sel.length)) with
   |none=>rfl
   |some i=>
    obtain⟨_,h2⟩:=ym e;rw[rM]at h2;have:=f.lt h2;omega
  rw[h2];simp only;rw[dZ aw]
  congr 1
  omega
theorem YE{j:Nat}(hj:j<H'.length):jf sel K.length j<K.length+(H'.length-sel.length):=by
 have hle:=f.le;unfold jf;split
 ·rename_i x h;have:=f.lt h;omega
 ·rename_i h;have h1:sel.length<=j:=pV.1 h;omega
theorem wG{i j:Nat}(h:xu sel K.length i=some j):jf sel K.length j=i:=by
 unfold xu at h;split at h
 ·rename_i j' e;cases h
  obtain⟨_,h2⟩:=ym e;rw[rM]at h2;unfold jf;rw[h2]
 ·split at h
  ·cases h
  ·cases h
   unfold jf;rw[pG aw];simp only;omega
theorem Ia{i:Nat}(h:xu sel K.length i=none):i<K.length/\∀j:Nat,sel[j]?≠some i:=by
 unfold xu at h;split at h
 ·cases h
 ·rename_i e;split at h
  ·rename_i h1;exact⟨h1,HK e⟩
  ·cases h
theorem len:(wC sel K H').length=K.length+(H'.length-sel.length):=by
 unfold wC;rw[pj,Ik,gu,List.length_drop]
theorem get{i:Nat}{ob:Ob}(h:(wC sel K H')[i]?=some ob):(xu sel K.length i=none/\K[i]?=some ob)\/∃j o,xu sel K.length i=some j/\H'[j]?=some o/\ob=zG (jf sel K.length) o:=by
 have hle:=f.le;unfold wC at h;rw[tt,Ik]at h;split at h
 ·rename_i hi;rw[Ng,gP]at h;rw[dX hi]at h;simp only[gF,gQ]at h;unfold xu;cases e:posOf sel 0 i with
  |none=>rw[e]at h;left;exact⟨by simp[hi],by rw[dX hi,<-h]⟩
  |some j=>
   rw[e]at h
   right
   obtain⟨_,h2⟩:=ym e;rw[rM]at h2;have hj:j<H'.length:=pH (dW.1 h2).1 hle;simp only[dX hj]at h;exact⟨j,H'[j],rfl,dX hj,h.symm⟩
 ·rename_i hi
  right
  have e:posOf sel 0 i=none:=by
   cases e:posOf sel 0 i with
   |none=>rfl
   |some j=>
    obtain⟨_,h2⟩:=ym e;rw[rM]at h2;exact absurd (f.lt h2) hi
  rw[gf,pO]at h;unfold xu;rw[e];simp only;rw[dZ hi];cases hx:H'[sel.length+(i-K.length)]? with
  |none=>rw[hx]at h;cases h
  |some o=>rw[hx]at h;cases h;exact⟨_,o,rfl,hx,rfl⟩
theorem map:GR E0 (iS E sel K.length H'.length E0) (jf sel K.length) where
 n id hi:=f.YE bV
 β id hops hi:=bW
 κ id hops hi:=bW
 G id k hi:=bW
 St:=rfl
theorem Hd{i j:Nat}(h:xu sel K.length i=some j)(hi:i<E.n):j<sel.length/\(sel[j]?).getD 0=i:=by
 rw[f.hh.n]at hi;unfold xu at h;split at h
 ·rename_i j' e;cases h
  obtain⟨_,h2⟩:=ym e;rw[rM]at h2;exact⟨(dW.1 h2).1,by rw[h2];rfl⟩
 ·rw[gh hi]at h;cases h
theorem Hc:E.le (iS E sel K.length H'.length E0) where
 n:=by rw[f.hh.n];exact Nat.le_add_right _ _
 β id hops hi:=by
  unfold iS;dsimp only;split
  ·rename_i j e;obtain⟨h1,h2⟩:=f.Hd e hi;rw[f.g.le.β j hops h1];simp[Env.fx,h2]
  ·rfl
 κ id hops hi:=by
  unfold iS;dsimp only;split
  ·rename_i j e;obtain⟨h1,h2⟩:=f.Hd e hi;rw[f.g.le.κ j hops h1];simp[Env.fx,h2]
  ·rfl
 St b o u hu:=f.g.le.St b o u hu
 G id k u hi hu:=by
  unfold iS;dsimp only;split
  ·rename_i j e;obtain⟨h1,h2⟩:=f.Hd e hi;exact f.g.le.G j k u h1 (by simp only[Env.fx,h2];exact hu)
  ·exact hu
theorem β_un{i:Nat}(h:xu sel K.length i=none)(hops:List fT):(iS E sel K.length H'.length E0).β i hops=E.β i hops:=by simp only[iS,h]
theorem κ_un{i:Nat}(h:xu sel K.length i=none)(hops:List fT):(iS E sel K.length H'.length E0).κ i hops=E.κ i hops:=by simp only[iS,h]
theorem GQ{i:Nat}(h:xu sel K.length i=none)(k:Nat):(iS E sel K.length H'.length E0).G i k=E.G i k:=by simp only[iS,h]
theorem β_in{i j:Nat}(h:xu sel K.length i=some j)(hops:List fT):(iS E sel K.length H'.length E0).β i hops=E0.β j hops:=by simp only[iS,h]
theorem κ_in{i j:Nat}(h:xu sel K.length i=some j)(hops:List fT):(iS E sel K.length H'.length E0).κ i hops=E0.κ j hops:=by simp only[iS,h]
theorem GP{i j:Nat}(h:xu sel K.length i=some j)(k:Nat):(iS E sel K.length H'.length E0).G i k=E0.G j k:=by simp only[iS,h]
theorem Js{b:Nat}(h:xy (E.fx sel) (xC sel K) b):xy E K b:=by
 rcases h with hb|⟨i,hb|hb⟩
 ·exact .inl (hb.fx f.z8 f.fW)
 ·obtain⟨id,_,h3⟩:=hb.fx f.z8;exact .inr ⟨id,.inl h3⟩
 ·obtain⟨id,_,h3⟩:=hb.fx f.z8;exact .inr ⟨id,.inr h3⟩
theorem H4{id b:Nat}(h:jM K id b):∃o,w.heap[b]?=some o/\CZ o=true:=by
 obtain⟨ob,o,t,h1,h2,h3,rfl⟩:=h;obtain⟨h4,_⟩:=f.hh.fm.iD id ob o t h1 h2 h3;exact⟨o,h4⟩
theorem M4{id b:Nat}(h:qL E K id b):∃cur e,w.heap[b]?=some (.cells cur e (0,0)):=by
 have h':=h;obtain⟨ob,cap,h1,_⟩:=h';obtain⟨cur,cap,_,h2,_⟩:=f.hh.fm.fD id b ob h h1;exact⟨cur,_,h2⟩
theorem C5{id:Nat}{hops:List fT}{x:Nat×List (List C)}(hid:xu sel K.length id=none)(hx:qf K id hops=some x):E.β id hops<w.heap.size/\¬xy (E.fx sel) (xC sel K) (E.β id hops):=by
 have hn:=(f.Ia hid).2;obtain⟨cur,e,hc⟩:=f.hh.base.Ef ⟨id,hops,x,hx,rfl⟩;refine⟨(gI.1 hc).1,?_⟩;rintro(⟨i,hops',⟨sz,rows⟩,hx',he⟩|⟨i,hb|hb⟩)
 ·obtain⟨id2,ob,rows0,h3,h4,h5,_⟩:=wK f.z8 f.fW hx';simp only[Env.fx,h3,Option.getD_some]at he;obtain⟨rfl,rfl⟩:=f.hh.base.inj id2 hops' id hops _ _ h5 hx he;exact hn i h3
 ·obtain⟨id2,_,h3⟩:=hb.fx f.z8;exact f.hh.fm.sep id2 _ h3 ⟨id,hops,x,hx,rfl⟩
 ·obtain⟨id2,_,h3⟩:=hb.fx f.z8;obtain⟨o,h4,h5⟩:=f.H4 h3;rw[hc]at h4;cases h4
  cases h5
theorem Eo{id b:Nat}(hid:xu sel K.length id=none)(hg:qL E K id b):b<w.heap.size/\¬xy (E.fx sel) (xC sel K) b:=by
 have hn:=(f.Ia hid).2;obtain⟨cur,e,hc⟩:=f.M4 hg;refine⟨(gI.1 hc).1,?_⟩;rintro(hb|⟨i,hb|hb⟩)
 ·exact f.hh.fm.sep id b hg (hb.fx f.z8 f.fW)
 ·obtain⟨id2,e2,h3⟩:=hb.fx f.z8;obtain rfl:=f.hh.fm.inj id2 id b h3 hg;exact hn i e2
 ·obtain⟨id2,_,h3⟩:=hb.fx f.z8;obtain⟨o,h4,h5⟩:=f.H4 h3;rw[hc]at h4;cases h4
  cases h5
theorem JQ{id b:Nat}(hid:xu sel K.length id=none)(hg:jM K id b):b<w.heap.size/\¬xy (E.fx sel) (xC sel K) b:=by
 have hn:=(f.Ia hid).2;obtain⟨o,hc,hf⟩:=f.H4 hg;refine⟨(gI.1 hc).1,?_⟩;rintro(hb|⟨i,hb|hb⟩)
 ·obtain⟨cur,e,h4⟩:=f.hh.base.Ef (hb.fx f.z8 f.fW);rw[hc]at h4;cases h4
  cases hf
 ·obtain⟨id2,e2,h3⟩:=hb.fx f.z8;obtain⟨cur,e,h4⟩:=f.M4 h3;rw[hc]at h4;cases h4
  cases hf
 ·obtain⟨id2,e2,h3⟩:=hb.fx f.z8;obtain rfl:=f.hh.fm.lb id2 id b h3 hg;exact hn i e2
theorem Gc{b:Nat}(h:b<w.heap.size/\¬xy (E.fx sel) (xC sel K) b):w'.heap[b]?=w.heap[b]?:=f.g.frame b h.1 h.2
theorem BK{b:Nat}(h:b<w.heap.size/\¬xy (E.fx sel) (xC sel K) b)(ho:xy E0 H' b):False:=by
 rcases f.g.own b ho with h1|h1
 ·have:=h.1;omega
 ·exact h.2 h1
theorem PZ{b o:Nat}{u:Value}(h:b<w.heap.size/\¬xy (E.fx sel) (xC sel K) b)(hu:E0.St b o=some u):E.St b o=some u:=by
 rcases f.g.jX b o u hu with h1|h1|h1
 ·exact h1
 ·have:=h.1;omega
 ·exact absurd h1 h.2
theorem DL{i:Nat}{hops:List fT}{sz:Nat}{rows:List (List C)}(h:qf (wC sel K H') i hops=some (sz,rows)):
  (xu sel K.length i=none/\qf K i hops=some (sz,rows))\/
  ∃j ob rows0,xu sel K.length i=some j/\H'[j]?=some ob/\qf H' j hops=some (sz,rows0)/\((ob.kind=2/\rows=rows0)\/(ob.kind=1/\hops=[]/\rows=rows0.map (λr=>r.map (vn (jf sel K.length) 9))/\∀r∈rows0,∀c∈r,zx c=true)):=by
 obtain⟨ob',ho',hk',hg'⟩:=jo h;rcases f.get ho' with⟨h1,h2⟩|⟨j,ob,h1,h2,rfl⟩
 ·left
  refine⟨h1,?_⟩;unfold qf;rw[h2];simp only;rw[gh hk'];exact hg'
 ·right
  obtain⟨kind,ty,sz0,rows0,fz⟩:=ob;rw[(xF _ _).1]at hk';rcases hk' with hk|hk
  ·have hk:kind=1:=hk;subst hk
   have hno:∀r∈rows0,∀c∈r,zx c=true:=by
    have:=gz.1 f.hf _ (dY h2);dsimp only at this;simpa [gz] using this
   have hg2:v7 sz0 (rows0.map λr=>r.map (vn (jf sel K.length) 9)) hops=some (sz,rows):=hg'
   obtain⟨rfl,e⟩:=wM (λi k c hc=>by
    unfold cellAt at hc;rw[gf]at hc;cases hx:rows0[i]? with
    |none=>rw[hx]at hc;cases hc
    |some r=>
     rw[hx]at hc;simp only[gF,gT,gf]at hc;cases hy:r[k]? with
     |none=>rw[hy]at hc;cases hc
     |some c0=>
      rw[hy]at hc;cases hc
      exact ME _ 9 (hno r (dY hx) c0 (dY hy))) hg2
   cases e
   exact⟨j,_,rows0,h1,h2,by unfold qf;rw[h2];simp[qW],.inr ⟨rfl,rfl,rfl,hno⟩⟩
  ·have hk:kind=2:=hk;subst hk;exact⟨j,_,rows,h1,h2,bG,.inl ⟨rfl,rfl⟩⟩
theorem zyM:ql w' (iS E sel K.length H'.length E0) (wC sel K H') where
 n:=by rw[f.len];rfl
 fD i ob' hops sz rows hob' hx:=by
  rcases f.DL hx with⟨h1,h2⟩|⟨j,ob,rows0,h1,h2,h3,h4⟩
  ·rcases f.get hob' with⟨_,h3⟩|⟨j,_,h3,_⟩
   rotate_left
   ·rw[h1]at h3;cases h3
   have hb:=f.hh.base.fD i ob' hops sz rows h3 h2;obtain⟨cur,e,hg,hcs,hcell⟩:=hb.fD;have hu:=f.C5 h1 h2;refine⟨by rw[f.κ_un h1];exact hb.len,hb.row,cur,e,by rw[f.β_un h1,f.Gc hu];exact hg,by rw[f.κ_un h1];exact hcs,?_⟩;intro i' k c hc;obtain⟨u,hu,ho⟩:=hcell i' k c hc;refine⟨u,hu,?_⟩;unfold qZ at ho ⊢;split at ho
   ·rw[f.β_un h1,f.κ_un h1];exact ho
   ·exact⟨ho.1.mono (f.Hc.at _),ho.2⟩
  ·rcases f.get hob' with⟨h5,_⟩|⟨j2,ob2,h5,h6,rfl⟩
   ·rw[h1]at h5;cases h5
   rw[h1]at h5;cases h5
   rw[h2]at h6;cases h6
   have hb:=f.h0.base.fD j ob hops sz rows0 h2 h3;obtain⟨cur,e,hg,hcs,hcell⟩:=hb.fD;rw[(xF _ ob).1];rcases h4 with⟨hk,rfl⟩|⟨hk,rfl,rfl,hno⟩
   ·refine⟨by rw[f.κ_in h1];exact hb.len,hb.row,cur,e,by rw[f.β_in h1];exact hg,by rw[f.κ_in h1];exact hcs,?_⟩;intro i' k c hc;obtain⟨u,hu,ho⟩:=hcell i' k c hc;refine⟨u,hu,?_⟩;unfold qZ at ho ⊢;split at ho
    ·rw[f.β_in h1,f.κ_in h1];exact ho
    ·refine⟨?_,ho.2⟩;have h5:=ho.1;simp only[Env.at,hk,if_true]at h5 ⊢;exact h5.mono f.map.shut
   ·refine⟨by rw[f.κ_in h1];simpa using hb.len,?_,cur,e,by rw[f.β_in h1];exact hg,by rw[f.κ_in h1];exact hcs,?_⟩
    ·intro r hr;obtain⟨r0,h5,rfl⟩:=gR.1 hr;simpa using hb.row r0 h5
    ·intro i' k c hc;unfold cellAt at hc;rw[gf]at hc;cases hx1:rows0[i']? with
     |none=>rw[hx1]at hc;cases hc
     |some r=>
      rw[hx1]at hc;simp only[gF,gT,gf]at hc;cases hy:r[k]? with
      |none=>rw[hy]at hc;cases hc
      |some c0=>
       rw[hy]at hc;cases hc
       obtain⟨u,hu,ho⟩:=hcell i' k c0 (by unfold cellAt;rw[hx1];exact hy);have hn0:=hno r (dY hx1) c0 (dY hy);rw[qZ.loose hn0]at ho;refine⟨u,hu,(qZ.loose (ME _ 9 hn0)).2 ⟨?_,ho.2⟩⟩;have h5:=ho.1;have hk2:¬ob.kind=2:=by rw[hk];decide
       simp only[Env.at,dZ hk2]at h5 ⊢;exact h5.P9 f.map 9
 inj i hops i' hops' x y hx hy he:=by
  rcases f.DL (sz:=x.1) (rows:=x.2) hx with⟨h1,h2⟩|⟨j,ob,rows0,h1,_,h3,_⟩ <;> rcases f.DL (sz:=y.1) (rows:=y.2) hy with⟨k1,k2⟩|⟨j',ob',rows0',k1,_,k3,_⟩
  ·rw[f.β_un h1,f.β_un k1]at he;exact f.hh.base.inj i hops i' hops' _ _ h2 k2 he
  ·rw[f.β_un h1,f.β_in k1]at he;exact(f.BK (f.C5 h1 h2) (.inl ⟨j',hops',_,k3,he.symm⟩)).elim
  ·rw[f.β_in h1,f.β_un k1]at he;exact(f.BK (f.C5 k1 k2) (.inl ⟨j,hops,_,h3,he⟩)).elim
  ·rw[f.β_in h1,f.β_in k1]at he;obtain⟨rfl,rfl⟩:=f.h0.base.inj j hops j' hops' _ _ h3 k3 he;exact⟨(f.wG h1).symm.trans (f.wG k1),rfl⟩
 qz:=f.h0.base.qz
 sep i hops x o u hx hu:=by
  rcases f.DL (sz:=x.1) (rows:=x.2) hx with⟨h1,h2⟩|⟨j,ob,rows0,h1,h2,h3,_⟩
  ·rw[f.β_un h1]at hu;obtain⟨e1,ob,e2,e3⟩:=f.hh.base.sep i hops _ o u h2 (f.PZ (f.C5 h1 h2) hu);refine⟨e1,?_⟩;obtain⟨ob',ho',_⟩:=jo hx;refine⟨ob',ho',?_⟩;rcases f.get ho' with⟨_,k2⟩|⟨j,_,k1,_⟩
   ·rw[e2]at k2;cases k2;exact e3
   ·rw[h1]at k1;cases k1
  ·rw[f.β_in h1]at hu;obtain⟨e1,ob2,e2,e3⟩:=f.h0.base.sep j hops _ o u h3 hu;refine⟨e1,?_⟩;obtain⟨ob',ho',_⟩:=jo hx;refine⟨ob',ho',?_⟩;rcases f.get ho' with⟨k1,_⟩|⟨j2,ob3,k1,k2,rfl⟩
   ·rw[h1]at k1;cases k1
   ·rw[h1]at k1;cases k1
    rw[e2]at k2;cases k2
    obtain⟨l1,l2,l3,l4,l5⟩:=xF (jf sel K.length) ob2;rw[l3,l5];exact e3
 ty i ob' hob' hk:=by
  rcases f.get hob' with⟨h1,h2⟩|⟨j,ob,h1,h2,rfl⟩
  ·obtain⟨cur,hc⟩:=f.hh.base.ty i ob' h2 hk;refine⟨cur,?_⟩;have hx:∃x,qf K i []=some x:=⟨(ob'.sz,ob'.rows),by unfold qf;rw[h2];simp[hk,qW]⟩;obtain⟨x,hx⟩:=hx;rw[f.β_un h1,f.Gc (f.C5 h1 hx)];exact hc
  ·obtain⟨l1,l2,l3,l4,l5⟩:=xF (jf sel K.length) ob;obtain⟨cur,hc⟩:=f.h0.base.ty j ob h2 (by rw[<-l1];exact hk);exact⟨cur,by rw[f.β_in h1,l2];exact hc⟩
 fz i ob' hob':=by
  rcases f.get hob' with⟨h1,h2⟩|⟨j,ob,h1,h2,rfl⟩
  ·exact f.hh.base.fz i ob' h2
  ·obtain⟨l1,l2,l3,l4,l5⟩:=xF (jf sel K.length) ob;rw[l4,l5];exact f.h0.base.fz j ob h2
theorem CR{i b:Nat}(h:qL (iS E sel K.length H'.length E0) (wC sel K H') i b):(xu sel K.length i=none/\qL E K i b)\/∃j,xu sel K.length i=some j/\qL E0 H' j b:=by
 obtain⟨ob',cap,h1,h2,h3,h4⟩:=h;rcases f.get h1 with⟨e1,e2⟩|⟨j,ob,e1,e2,rfl⟩
 ·left
  rw[f.GQ e1]at h3;exact⟨e1,ob',cap,e2,h2,h3,h4⟩
 ·right
  obtain⟨l1,l2,l3,l4,l5⟩:=xF (jf sel K.length) ob;rw[f.GP e1,l4]at h3;rw[l4]at h4;exact⟨j,e1,ob,cap,e2,bH,h3,h4⟩
theorem IF{i b:Nat}(h:jM (wC sel K H') i b):(xu sel K.length i=none/\jM K i b)\/∃j,xu sel K.length i=some j/\jM H' j b:=by
 obtain⟨ob',o,t,h1,h2,h3,h4⟩:=h;rcases f.get h1 with⟨e1,e2⟩|⟨j,ob,e1,e2,rfl⟩
 ·exact .inl ⟨e1,ob',o,t,e2,h2,h3,h4⟩
 ·have hk:ob.kind=4:=by rw[<-(xF (jf sel K.length) ob).1];exact h2
  rw[Jm hk]at h3 h4;exact .inr ⟨j,e1,ob,o,t,e2,hk,h3,h4⟩
theorem MH{b:Nat}(h:jk (iS E sel K.length H'.length E0) (wC sel K H') b):(∃id hops x,xu sel K.length id=none/\qf K id hops=some x/\E.β id hops=b)\/jk E0 H' b:=by
 obtain⟨i,hops,⟨sz,rows⟩,hx,rfl⟩:=h;rcases f.DL hx with⟨h1,h2⟩|⟨j,ob,rows0,h1,_,h3,_⟩
 ·exact .inl ⟨i,hops,_,h1,h2,(f.β_un h1 hops).symm⟩
 ·exact .inr ⟨j,hops,_,h3,(f.β_in h1 hops).symm⟩
theorem fm:mY w' (iS E sel K.length H'.length E0) (wC sel K H') where
 val i ob' h1 h2:=by
  rcases f.get h1 with⟨e1,e2⟩|⟨j,ob,e1,e2,rfl⟩
  ·rw[f.GQ e1];exact f.hh.fm.val i ob' e2 h2
  ·obtain⟨l1,l2,l3,l4,l5⟩:=xF (jf sel K.length) ob;rw[f.GP e1,l4];exact f.h0.fm.val j ob e2 bH
 fD i b ob' h1 h2:=by
  rcases f.CR h1 with⟨k1,k2⟩|⟨j,k1,k2⟩ <;> rcases f.get h2 with⟨e1,e2⟩|⟨j',ob,e1,e2,rfl⟩
  ·rw[f.GQ k1,f.Gc (f.Eo k1 k2)];exact f.hh.fm.fD i b ob' k2 e2
  ·rw[k1]at e1;cases e1
  ·rw[k1]at e1;cases e1
  ·rw[k1]at e1;cases e1
   obtain⟨l1,l2,l3,l4,l5⟩:=xF (jf sel K.length) ob;rw[f.GP k1,l2,l3,l4];exact f.h0.fm.fD j b ob k2 e2
 sep i b h1 h2:=by
  rcases f.CR h1 with⟨k1,k2⟩|⟨j,k1,k2⟩ <;> rcases f.MH h2 with⟨id,hops,x,e1,e2,rfl⟩|e2
  ·exact f.hh.fm.sep i _ k2 ⟨id,hops,x,e2,rfl⟩
  ·exact f.BK (f.Eo k1 k2) (.inl e2)
  ·exact f.BK (f.C5 e1 e2) (.inr ⟨j,.inl k2⟩)
  ·exact f.h0.fm.sep j b k2 e2
 inj i i' b h1 h2:=by
  rcases f.CR h1 with⟨k1,k2⟩|⟨j,k1,k2⟩ <;> rcases f.CR h2 with⟨e1,e2⟩|⟨j',e1,e2⟩
  ·exact f.hh.fm.inj i i' b k2 e2
  ·exact(f.BK (f.Eo k1 k2) (.inr ⟨j',.inl e2⟩)).elim
  ·exact(f.BK (f.Eo e1 e2) (.inr ⟨j,.inl k2⟩)).elim
  ·obtain rfl:=f.h0.fm.inj j j' b k2 e2;exact(f.wG k1).symm.trans (f.wG e1)
 st i b ob' o u h1 h2 h3:=by
  rcases f.CR h1 with⟨k1,k2⟩|⟨j,k1,k2⟩ <;> rcases f.get h2 with⟨e1,e2⟩|⟨j',ob,e1,e2,rfl⟩
  ·exact f.hh.fm.st i b ob' o u k2 e2 (f.PZ (f.Eo k1 k2) h3)
  ·rw[k1]at e1;cases e1
  ·rw[k1]at e1;cases e1
  ·rw[k1]at e1;cases e1
   obtain⟨l1,l2,l3,l4,l5⟩:=xF (jf sel K.length) ob;rw[l3,l4];exact f.h0.fm.st j b ob o u k2 e2 h3
 top i ob' k u h1 h2 h3:=by
  rcases f.get h1 with⟨e1,e2⟩|⟨j,ob,e1,e2,rfl⟩
  ·rw[f.GQ e1]at h3;exact f.hh.fm.top i ob' k u e2 h2 h3
  ·obtain⟨l1,l2,l3,l4,l5⟩:=xF (jf sel K.length) ob;rw[f.GP e1]at h3;rw[l4];exact f.h0.fm.top j ob k u e2 bH h3
 iD i ob' o t h1 h2 h3:=by
  rcases f.get h1 with⟨e1,e2⟩|⟨j,ob,e1,e2,rfl⟩
  ·obtain⟨⟨p1,p2⟩,p3⟩:=f.hh.fm.iD i ob' o t e2 h2 h3;rw[f.Gc (f.JQ e1 ⟨ob',o,t,e2,h2,h3,rfl⟩)];exact⟨⟨p1,p2⟩,p3.mono f.Hc⟩
  ·have hk4:ob.kind=4:=by rw[<-(xF (jf sel K.length) ob).1];exact h2
   rw[Jm hk4]at h3;have:=gz.1 f.hf ob (dY e2);rw[hk4,h3.2,h3.1]at this;obtain⟨p1,p2⟩:=f.h0.fm.iD j ob o t e2 hk4 h3;have ht:t.all B0=true:=aq this
   rw[Jm hk4];exact⟨p1,p2.map λys hl=>hl.closed ht ⟨gV _,λ_ _ h=>absurd h (pz _),λ_ _ h=>absurd h (pz _),λ_ _ _ h=>h,λ_ _ _ h=>absurd h (pz _)⟩⟩
 lb i i' b h1 h2:=by
  rcases f.IF h1 with⟨k1,k2⟩|⟨j,k1,k2⟩ <;> rcases f.IF h2 with⟨e1,e2⟩|⟨j',e1,e2⟩
  ·exact f.hh.fm.lb i i' b k2 e2
  ·exact(f.BK (f.JQ k1 k2) (.inr ⟨j',.inr e2⟩)).elim
  ·exact(f.BK (f.JQ e1 e2) (.inr ⟨j,.inr k2⟩)).elim
  ·obtain rfl:=f.h0.fm.lb j j' b k2 e2;exact(f.wG k1).symm.trans (f.wG e1)
theorem grow:Grow w E K w' (iS E sel K.length H'.length E0) (wC sel K H') where
 le:=f.Hc
 os:=f.g.os
 tape:=f.g.tape
 output:=f.g.output
 size:=f.g.size
 frame k h1 h2:=f.g.frame k h1 λh=>h2 (f.Js h)
 jX b o u hu:=by
  rcases f.g.jX b o u hu with h1|h1|h1
  ·exact .inl h1
  ·exact .inr (.inl h1)
  ·exact .inr (.inr (f.Js h1))
 own b hb:=by
  have fin:xy E0 H' b->w.heap.size<=b\/xy E K b:=λh=>(f.g.own b h).imp_right f.Js
  rcases hb with hb|⟨i,hb|hb⟩
  ·rcases f.MH hb with⟨id,hops,x,_,e2,e3⟩|h
   ·exact .inr (.inl ⟨id,hops,x,e2,e3⟩)
   ·exact fin (.inl h)
  ·rcases f.CR hb with⟨_,k2⟩|⟨j,_,k2⟩
   ·exact .inr (.inr ⟨i,.inl k2⟩)
   ·exact fin (.inr ⟨j,.inl k2⟩)
  ·rcases f.IF hb with⟨_,k2⟩|⟨j,_,k2⟩
   ·exact .inr (.inr ⟨i,.inr k2⟩)
   ·exact fin (.inr ⟨j,.inr k2⟩)
end Fr
variable {P:Program} {f:FuncId}
def qI.part(sel:List Nat){K H0:zm}{args args0:List C}{R:C->zm->Prop}(h:qI P f H0 args0 R)(hR:∀r H',R r H'->qt H'=true)
 (hH:xC sel K=H0)(ha:args.map (xO sel 9)=args0)(z8:sel.all (λid=>Nat.blt id K.length)=true)(iw:yl sel=true)(fW:qt K=true):
  qI P f K args λr K'=>∃r0 H',R r0 H'/\r=vn (jf sel K.length) 9 r0/\K'=wC sel K H':=λw E vs hh hl=>by
 subst hH ha;refine(h w (E.fx sel) vs (hh.fx sel z8 iw fW) (hl.fx λc y hl=>hl.fx sel 9)).mono λe w' ⟨r,H',v,E0,h1,h2,h3,h4,g⟩=>?_
 have fr:Fr w E K sel w' E0 H':=⟨hh,z8,iw,fW,h3,g,hR r H' h1⟩;exact⟨_,_,v,_,⟨r,H',h1,rfl,rfl⟩,h2,⟨fr.zyM,fr.fm⟩,h4.P9 fr.map 9,fr.grow⟩
def zb.part(sel:List Nat){K H0 H':zm}{args args0:List C}{r:C}(h:zb P f H0 args0 r H')(hR:qt H'=true)
 (hH:xC sel K=H0)(ha:args.map (xO sel 9)=args0)(z8:sel.all (λid=>Nat.blt id K.length)=true)(iw:yl sel=true)(fW:qt K=true):
  zb P f K args (vn (jf sel K.length) 9 r) (wC sel K H'):=λw E vs hh hl=>by
 refine((h.iO (R:=λx X=>x=r/\X=H') ⟨rfl,rfl⟩).part sel (λx X e=>e.2 ▸ hR) hH ha z8 iw fW w E vs hh hl).mono λe w' ⟨r1,K',v,E',⟨r0,H1,⟨e1,e2⟩,e3,e4⟩,h2⟩=>?_
 subst e1 e2 e3 e4;exact⟨v,E',h2⟩
def zt(sel:List Nat){K H0 H':zm}{args args0:List C}{r:C}(h:zb P f H0 args0 r H')(hR:qt H'=true)
 (hH:xC sel K=H0)(ha:args.map (xO sel 9)=args0)(z8:sel.all (λid=>Nat.blt id K.length)=true)(iw:yl sel=true)(fW:qt K=true){k:C->zm->Prop}
 (hk:BM (wC sel K H') λX=>okB (vn (jf sel K.length) 9 r) λc=>k c X):∃r' H2,zb P f K args r' H2/\okB r' λc=>k c H2:=
 ⟨_,_,h.part sel hR hH ha z8 iw fW,kU (k:=λX=>okB (vn (jf sel K.length) 9 r) λc=>k c X) hk⟩
def ah{f:FuncId}{H:zm}{args:List C}{r:C}{k:C->zm->Prop}{zQ:Prop}(h:zb P f [] args r [])(z0:zQ)(ha:args.all (qX 0 9)=true:=by exact J)(ze:zQ->okB r λc=>k c H:=by intro zh;(conv=>whnf);(try apply zz;conv=>whnf);exact zh):∃r H2,zb P f H args r H2/\okB r λc=>k c H2:=⟨_,_,h.frame ha H,ze z0⟩
def af{K H0 H':zm}{args args0:List C}{r:C}{k:C->zm->Prop}{zQ:Prop}(sel:List Nat)(h:zb P f H0 args0 r H')(z0:zQ)(hR:qt H'=true:=by exact J)(hH:xC sel K=H0:=by exact J)(ha:args.map (xO sel 9)=args0:=by exact J)(z8:sel.all (λid=>Nat.blt id K.length)=true:=by exact J)(iw:yl sel=true:=by exact J)(fW:qt K=true:=by exact J)(ze:zQ->BM (wC sel K H') λX=>okB (vn (jf sel K.length) 9 r) λc=>k c X:=by intro zh;(conv=>whnf);(try apply zz;conv=>whnf);exact zh):∃r' H2,zb P f K args r' H2/\okB r' λc=>k c H2:=zt sel h hR hH ha z8 iw fW (ze z0)
def W2{sel:List Nat}{K K':zm}(h:∀id∈sel,K'[id]?=K[id]?):xC sel K'=xC sel K:=by
 unfold xC;refine p8 λid hid=>?_
 rw[h id hid]
def Mz{sel:List Nat}{H':zm}{ρ:Nat->Nat}:∀(K:zm) (k:Nat),(∀(j id:Nat) (o:Ob),sel[j]?=some id->H'[j]?=some o->id<k+K.length->k<=id->K[id-k]?=some (zG ρ o))->(sel.length<=H'.length)->oF sel H' ρ k K=K
 |[],k,h,hl=>rfl
 |ob::K,k,h,hl=>by
  rw[oF]
  congr 1
  ·split
   ·rename_i j hj;have hs:sel[j]?=some k:=by simpa using (ym hj).2
    split
    ·rename_i o ho;have:=h j k o hs ho aj (gC _);simpa using this.symm
    ·rename_i ho;have h1:=(dW.1 hs).1;rw[pV]at ho;omega
   ·rfl
  ·refine Mz K (k+1) (λj id o h1 h2 h3 h4=>?_) hl;have:=h j id o h1 h2 aA aw
   rwa [show id-k=(id-(k+1))+1 from aw,pZ]at this
def zb.blind(sel:List Nat){K H0:zm}{T:mr}{args args0:List C}{r:C}(h:zb P f H0 args0 r H0)(hR:qt H0=true)
 (hH:xC sel K=H0)(ha:args.map (xO sel 9)=args0)(z8:sel.all (λid=>Nat.blt id K.length)=true)(iw:yl sel=true)(fW:T.flat=true)(hk:sel.all (oR T.keep)=true)
 (hb:∀n,(sel.map λid=>zG (jf sel n) (zK sel ((K[id]?).getD dead)))=sel.map λid=>(K[id]?).getD dead)(hr:∀n,vn (jf sel n) 9 r=r):∀H2,XC T K H2->zb P f H2 args r H2:=λH2 hx=>by
 have same:∀id∈sel,H2[id]?=K[id]?:=λid hid=>hx.1 id (gz.1 hk id hid)
 have hH2:xC sel H2=H0:=(W2 same).trans hH
 have fj:∀id∈sel,∃o,K[id]?=some o/\H2[id]?=some o:=λid hid=>by
  have h1:=gz.1 z8 id hid;have h1:id<K.length:=rR h1;exact⟨K[id],aD,by rw[same id hid];simp[h1]⟩
 have h2:=h.part sel (K:=H2) (args:=args) hR hH2 ha (gz.2 λid hid=>by
  obtain⟨o,_,h3⟩:=fj id hid;exact u6 (dW.1 h3).1) iw (hx.2 fW)
 rw[hr]at h2;have hlen:H0.length=sel.length:=by rw[<-hH];simp[xC]
 have e:wC sel H2 H0=H2:=by
  unfold wC;rw[List.drop_eq_nil_of_le aw,sX,pY];refine Mz H2 0 (λj id o h3 h4 h5 _=>?_) aw;obtain⟨o1,h6,h7⟩:=fj id (dY h3);have h8:=rq (·[j]?) (hb H2.length);simp only[gf,h3,gF,h6,Option.getD_some]at h8;rw[<-hH]at h4;simp only[xC,gf,h3,gF,h6,Option.getD_some]at h4;cases h4
  simp only[rM];rw[h7];exact h8.symm
 rw[e]at h2;exact h2
def ai{K H0:zm}{T:mr}{args args0:List C}{r:C}(sel:List Nat)(h:zb P f H0 args0 r H0)(hR:qt H0=true:=by exact J)(hH:xC sel K=H0:=by exact J)(ha:args.map (xO sel 9)=args0:=by exact J)(z8:sel.all (λid=>Nat.blt id K.length)=true:=by exact J)(iw:yl sel=true:=by exact J)(fW:T.flat=true:=by exact J)(hk:sel.all (oR T.keep)=true:=by exact J)(hb:∀n,(sel.map λid=>zG (jf sel n) (zK sel ((K[id]?).getD dead)))=sel.map λid=>(K[id]?).getD dead:=by exactλ_=>J)(hr:∀n,vn (jf sel n) 9 r=r:=by exactλ_=>J):∀H2,XC T K H2->zb P f H2 args r H2:=zb.blind sel h hR hH ha z8 iw fW hk hb hr
end
end Go.Ab
namespace Go.Ab
def Ij{ob:Ob}(h:∀r∈ob.rows,∀c∈r,zx c=true){i k:Nat}{c:C}(hc:cellAt ob.rows i k=some c):zx c=true:=by
 unfold cellAt at hc;cases hx:ob.rows[i]? with
 |none=>rw[hx]at hc;cases hc
 |some r=>rw[hx]at hc;exact h r (dY hx) c (dY hc)
def wJ{H:zm}{id:Nat}{ob:Ob}(hob:H[id]?=some ob)(hk:ob.kind=1\/ob.kind=2):qf H id []=some (ob.sz,ob.rows):=by
 unfold qf;rw[hob];simp[hk,qW]
def E5{H:zm}{id:Nat}{ob ob':Ob}(hob:H[id]?=some ob)(hk:ob.kind=1\/ob.kind=2)(hno':∀r∈ob'.rows,∀c∈r,zx c=true){id':Nat}{p:List fT}{x:Nat×List (List C)}
 (h:qf (H.set id ob') id' p=some x):(id'≠id/\qf H id' p=some x)\/(id'=id/\p=[]/\x=(ob'.sz,ob'.rows)/\qf H id []=some (ob.sz,ob.rows)):=by
 obtain⟨ob2,ho,hk2,hg⟩:=jo h;by_cases hi:id'=id
 ·subst hi
  right
  rw[gD,gh J,gh (dW.1 hob).1]at ho;cases ho
  obtain⟨rfl,rfl⟩:=wM (λi k c hc=>Ij hno' hc) hg;exact⟨rfl,rfl,rfl,wJ hob hk⟩
 ·left
  refine⟨hi,?_⟩;rw[gD,dZ (Ne.symm hi)]at ho;unfold qf;rw[ho];simp only[hk2,if_true];exact hg
def ql.DV{w:World}{E:Env}{H:zm}(h:ql w E H){id:Nat}{ob ob':Ob}(hob:H[id]?=some ob)(hk:ob.kind=1\/ob.kind=2)(hk':ob'.kind=1\/ob'.kind=2)
 (hty:ob'.kind=2->∃cur,w.heap[E.β id []]?=some (.cells cur ob'.ty (0,0)))(hsz:ob'.sz=ob.sz)(hfz:ob'.fz=ob.fz)(hlen:ob'.rows.length<=ob.rows.length)(hfz0:ob'.fz<=ob'.rows.length)
 (hrow:∀r∈ob'.rows,r.length=ob.sz)(hno:∀r∈ob.rows,∀c∈r,zx c=true)(hno':∀r∈ob'.rows,∀c∈r,zx c=true)
 (hc:∀(i k:Nat) c c' u,cellAt ob.rows i k=some c->cellAt ob'.rows i k=some c'->L (E.at ob.kind) c u->w.cell? ⟨E.β id [],i*ob.sz+k,none⟩=some u->L (E.at ob'.kind) c' u):ql w E (H.set id ob') where
 n:=aq h.n
 fD id' ob2 p sz' rows' hob2 hx:=by
  rcases E5 hob hk hno' hx with⟨h1,h2⟩|⟨rfl,rfl,h1,h2⟩
  ·rw[gD,dZ (Ne.symm h1)]at hob2;exact h.fD id' ob2 p sz' rows' hob2 h2
  ·rw[gD,gh J,gh (dW.1 hob).1]at hob2;cases hob2
   cases h1
   have hb:=h.fD _ _ _ _ _ hob h2;rw[hsz];refine⟨pA hlen hb.len,hrow,?_⟩;obtain⟨cur,e,h3,h4,h5⟩:=hb.fD;refine⟨cur,e,h3,h4,?_⟩;intro i k c' hc';obtain⟨hi,hkk⟩:=Fl hrow hc';obtain⟨c,hc0⟩:=E8 hb.row (pH hi hlen) hkk;obtain⟨u,hu,ho⟩:=h5 i k c hc0;refine⟨u,hu,?_⟩;rw[qZ.loose (Ij hno hc0)]at ho;rw[qZ.loose (Ij hno' hc')];exact⟨hc i k c c' u hc0 hc' ho.1 (by unfold World.cell?;rw[h3];simpa using hu),ho.2⟩
 inj i p j q x y hx hy he:=by
  have key:∀i p x,qf (H.set id ob') i p=some x->∃x',qf H i p=some x':=λi p x hx=>by
   rcases E5 hob hk hno' hx with⟨h1,h2⟩|⟨rfl,rfl,h1,h2⟩
   ·exact⟨x,h2⟩
   ·exact⟨_,h2⟩
  obtain⟨x',hx'⟩:=key i p x hx;obtain⟨y',hy'⟩:=key j q y hy;exact h.inj i p j q x' y' hx' hy' he
 qz:=h.qz
 sep i p x o u hx hu:=by
  rcases E5 hob hk hno' hx with⟨h1,h2⟩|⟨rfl,rfl,h1,h2⟩
  ·obtain⟨e1,ob2,e2,e3⟩:=h.sep i p x o u h2 hu;exact⟨e1,ob2,by rw[gD,dZ (Ne.symm h1)];exact e2,e3⟩
  ·obtain⟨e1,ob2,e2,e3⟩:=h.sep _ [] _ o u h2 hu;rw[hob]at e2;cases e2
   exact⟨rfl,ob',by rw[gD,gh J,gh (dW.1 hob).1],by rw[hfz,hsz];exact e3⟩
 ty i ob2 ho hk2:=by
  rw[gD]at ho;split at ho
  ·rename_i e;subst e;split at ho
   ·cases ho;exact hty hk2
   ·cases ho
  ·exact h.ty i ob2 ho hk2
 fz i ob2 ho:=by
  rw[gD]at ho;split at ho
  ·split at ho
   ·cases ho;exact hfz0
   ·cases ho
  ·exact h.fz i ob2 ho
def ql.B7{w:World}{E:Env}{H:zm}(h:ql w E H){id:Nat}{ob ob':Ob}(hob:H[id]?=some ob)(hk:ob.kind=1\/ob.kind=2)(hk':ob'.kind=1\/ob'.kind=2)
 (hty:ob'.kind=2->∃cur,w.heap[E.β id []]?=some (.cells cur ob'.ty (0,0)))(hsz:ob'.sz=ob.sz)(hfz:ob'.fz=ob.fz)(hlen:ob'.rows.length=ob.rows.length)
 (hrow:∀r∈ob'.rows,r.length=ob.sz)(hno:∀r∈ob.rows,∀c∈r,zx c=true)(hno':∀r∈ob'.rows,∀c∈r,zx c=true)
 (hc:∀(i k:Nat) c c' u,cellAt ob.rows i k=some c->cellAt ob'.rows i k=some c'->L (E.at ob.kind) c u->w.cell? ⟨E.β id [],i*ob.sz+k,none⟩=some u->L (E.at ob'.kind) c' u):ql w E (H.set id ob'):=
 h.DV hob hk hk' hty hsz hfz (sO hlen) (by rw[hfz,hlen];exact h.fz id _ hob) hrow hno hno' hc
def qA.DV{w:World}{E:Env}{H:zm}(h:qA w E H){id:Nat}{ob ob':Ob}(hob:H[id]?=some ob)(hk:ob.kind=1\/ob.kind=2)(hk':ob'.kind=1\/ob'.kind=2)
 (hty:ob'.kind=2->∃cur,w.heap[E.β id []]?=some (.cells cur ob'.ty (0,0)))(hsz:ob'.sz=ob.sz)(hfz:ob'.fz=ob.fz)(hlen:ob'.rows.length<=ob.rows.length)(hfz0:ob'.fz<=ob'.rows.length)
 (hrow:∀r∈ob'.rows,r.length=ob.sz)(hno:∀r∈ob.rows,∀c∈r,zx c=true)(hno':∀r∈ob'.rows,∀c∈r,zx c=true)
 (hc:∀(i k:Nat) c c' u,cellAt ob.rows i k=some c->cellAt ob'.rows i k=some c'->L (E.at ob.kind) c u->w.cell? ⟨E.β id [],i*ob.sz+k,none⟩=some u->L (E.at ob'.kind) c' u):qA w E (H.set id ob')/\Grow w E H w E (H.set id ob'):=by
 have hR:=h.base.DV hob hk hk' hty hsz hfz hlen hfz0 hrow hno hno' hc
 have hG:qH w E H w E (H.set id ob'):=⟨Env.le.refl E,λ_ _ _=>J,rfl,rfl,rfl,gC _,λ_ _ _=>J,λ_ _ _ h=>.inl h,λb ⟨i,p,x,hx,he⟩=>by
  rcases E5 hob hk hno' hx with⟨h1,h2⟩|⟨rfl,rfl,h1,h2⟩
  ·exact .inr ⟨i,p,x,h2,he⟩
  ·exact .inr ⟨_,[],_,h2,he⟩⟩
 have hk4:=jH.P1 (ob':=ob') hob (by rcases hk with h|h <;> rw[h] <;> decide) (by rcases hk' with h|h <;> rw[h] <;> decide);exact⟨⟨hR,mY.step h hG hk4⟩,hG.up h hk4⟩
def qA.B7{w:World}{E:Env}{H:zm}(h:qA w E H){id:Nat}{ob ob':Ob}(hob:H[id]?=some ob)(hk:ob.kind=1\/ob.kind=2)(hk':ob'.kind=1\/ob'.kind=2)
 (hty:ob'.kind=2->∃cur,w.heap[E.β id []]?=some (.cells cur ob'.ty (0,0)))(hsz:ob'.sz=ob.sz)(hfz:ob'.fz=ob.fz)(hlen:ob'.rows.length=ob.rows.length)
 (hrow:∀r∈ob'.rows,r.length=ob.sz)(hno:∀r∈ob.rows,∀c∈r,zx c=true)(hno':∀r∈ob'.rows,∀c∈r,zx c=true)
 (hc:∀(i k:Nat) c c' u,cellAt ob.rows i k=some c->cellAt ob'.rows i k=some c'->L (E.at ob.kind) c u->w.cell? ⟨E.β id [],i*ob.sz+k,none⟩=some u->L (E.at ob'.kind) c' u):qA w E (H.set id ob')/\Grow w E H w E (H.set id ob'):=
 h.DV hob hk hk' hty hsz hfz (sO hlen) (by rw[hfz,hlen];exact h.base.fz id _ hob) hrow hno hno' hc
def qA.rowsOf{w:World}{E:Env}{H:zm}(h:qA w E H){id:Nat}{ob:Ob}(hob:H[id]?=some ob)(hk:ob.kind=1\/ob.kind=2):∀r∈ob.rows,r.length=ob.sz:=(h.base.fD _ _ _ _ _ hob (wJ hob hk)).row
section
variable {B:Nat} {s:S}
def zq.Da(id:Nat){ty sz:Nat}{rows:List (List C)}(hob:s.H[id]?=some ⟨2,ty,sz,rows,0⟩)(hno:∀r∈rows,∀c∈r,zx c=true):zq B s ⟨s.tmps,s.H.set id ⟨1,0,sz,rows,0⟩⟩:=λm w E a hs=>by
 have hrow:=hs.heap.rowsOf hob (.inr J)
 obtain⟨hR,g⟩:=hs.heap.B7 hob (.inr J) (ob':=⟨1,0,sz,rows,0⟩) (.inl J) (λh=>by cases h) rfl rfl rfl hrow hno hno λi k c c' u e1 e2 hl _=>by
  rw[e1]at e2;cases e2
  exact hl.mono (by show(E.at 2).le (E.at 1);unfold Env.at;exact E.Ei)
 exact⟨E,⟨hR,hs.tmps,hs.defers,aq hs.base⟩,g.iG tA⟩
def qA.IW{w:World}{E:Env}{H:zm}(hh:qA w E H){id sz len ty kd:Nat}{full:Bool}{rows:List (List C)}{y:Value}(hl:L E (.sl id [] sz 0 len full) y)(hob:H[id]?=some ⟨kd,ty,sz,rows,0⟩)(hk:kd=1\/kd=2)(hlen:len=rows.length)
 (hsh:∀r∈rows,∀c∈r,jc c=true/\zx c=true):
  ∃E1,qA w E1 (H.set id ⟨1,0,sz,rows,rows.length⟩)/\L E1 (.fh 0 sz rows) y/\Grow w E H w E1 (H.set id ⟨1,0,sz,rows,rows.length⟩):=by
 have hno:∀r∈rows,∀c∈r,zx c=true:=λr h c hc=>(hsh r h c hc).2
 have hrow:=hh.rowsOf hob hk;obtain⟨cur,e,h3,h4,h5⟩:=(hh.base.fD _ _ _ _ _ hob (wJ hob hk)).fD
 obtain⟨hR1,g1⟩:=hh.B7 hob hk (ob':=⟨2,e,sz,rows,0⟩) (.inr J) (λ_=>⟨cur,h3⟩) J J J hrow hno hno λi k c c' u e1 e2 hl _=>by
  rw[e1]at e2;cases e2
  unfold cellAt at e1;cases hx:rows[i]? with
  |none=>rw[hx]at e1;cases e1
  |some r=>
   rw[hx]at e1;have hs:=(hsh r (dY hx) c (dY e1)).1;exact(hl.mono (E.PE kd)).kE hs
 have fj:id<H.length:=(dW.1 hob).1;obtain⟨E1,hR2,hl2,g2⟩:=hR1.LR hl (by rw[gD,gh J,gh fj]) hlen hno;rw[pb]at hR2 g2
 obtain⟨hR3,g3⟩:=hR2.B7 (id:=id) (ob:=⟨2,e,sz,rows,rows.length⟩) (by rw[gD,gh J,gh fj]) (.inr J) (ob':=⟨1,0,sz,rows,rows.length⟩) (.inl J) (λh=>by cases h) rfl rfl rfl hrow hno hno λi k c c' u e1 e2 hl _=>by
  rw[e1]at e2;cases e2
  exact hl.mono (by show(E1.at 2).le (E1.at 1);unfold Env.at;exact E1.Ei)
 rw[pb]at hR3 g3;refine⟨E1,hR3,?_,(g1.trans g2).trans g3⟩;cases full
 ·exact hl2
 ·exact WC.share 1 sz rows E1 y hl2
def zq.zV(vid i k:Nat){id sz len ty kd vty vsz:Nat}{full:Bool}{r:List C}{rows vrows:List (List C)}(hv:s.H[vid]?=some ⟨1,vty,vsz,vrows,0⟩)(hr:vrows[i]?=some r)(hk:r[k]?=some (.sl id [] sz 0 len full))(hob:s.H[id]?=some ⟨kd,ty,sz,rows,0⟩)
 (hkd:kd=1\/kd=2)(hne:(vid == id)=false)(hlen:len=rows.length)(hsh:∀r∈rows,∀c∈r,jc c=true/\zx c=true)(hno:∀r∈vrows,∀c∈r,zx c=true):
  zq B s ⟨s.tmps,(s.H.set id ⟨1,0,sz,rows,rows.length⟩).set vid ⟨1,vty,vsz,vrows.set i (r.set k (.fh 0 sz rows)),0⟩⟩:=λm w E a hs=>by
 have hne:vid≠id:=aq hne
 obtain⟨cur,e,h3,h4,h5⟩:=(hs.heap.base.fD _ _ _ _ _ hv (wJ hv (.inl J))).fD;have hrow:=hs.heap.rowsOf hv (.inl J);obtain⟨u,hu,ho⟩:=h5 i k _ (show cellAt vrows i k=some (.sl id [] sz 0 len full) by unfold cellAt;rw[hr];exact hk);rw[qZ.loose J]at ho;have hl:L E (.sl id [] sz 0 len full) u:=aF
 obtain⟨E1,hh1,hl1,g1⟩:=hs.heap.IW hl hob hkd hlen hsh;have hob1:(s.H.set id ⟨1,0,sz,rows,rows.length⟩)[vid]?=some ⟨1,vty,vsz,vrows,0⟩:=by rw[gD,dZ (Ne.symm hne)];exact hv
 have hβ:E1.β vid []=E.β vid []:=g1.le.β vid [] (by rw[hs.heap.n];exact(dW.1 hv).1)
 have hcu:w.cell? ⟨E1.β vid [],i*vsz+k,none⟩=some u:=by
  unfold World.cell?;rw[hβ,h3];simpa using hu
 have hin:=dY hr;have hset:∀q∈vrows.set i (r.set k (.fh 0 sz rows)),q∈vrows\/q=r.set k (.fh 0 sz rows):=λq hq=>pw hq
 obtain⟨hR,g2⟩:=hh1.B7 hob1 (.inl J) (ob':=⟨1,vty,vsz,vrows.set i (r.set k (.fh 0 sz rows)),0⟩) (.inl J) (λh=>by cases h) rfl rfl aj (λq hq=>by
   rcases hset q hq with h|rfl
   ·exact hrow q h
   ·simpa using hrow r hin) hno (λq hq c hc=>by
   rcases hset q hq with h|rfl
   ·exact hno q h c hc
   ·rcases pw hc with h|rfl
    ·exact hno r hin c h
    ·rfl) λi' k' c c' v e1 e2 hl' hv'=>by
  have hat:∀X:Env,X.at 1=X:=λX=>by simp[Env.at]
  rw[hat]at hl' ⊢;unfold cellAt at e1 e2;rw[gD]at e2;split at e2
  ·rename_i e;subst e;split at e2
   ·simp only[gT]at e2;rw[hr]at e1;simp only[gT]at e1;rw[gD]at e2;split at e2
    ·rename_i e;subst e;split at e2
     ·cases e2
      rw[hcu]at hv';cases hv'
      exact hl1
     ·cases e2
    ·rw[e1]at e2;cases e2
     exact hl'
   ·cases e2
  ·rw[e1]at e2;cases e2
   exact hl'
 exact df
def zq.HA(t:Nat){id sz len ty kd:Nat}{full:Bool}{rows:List (List C)}(ht:s.tmps[t]?=some (.sl id [] sz 0 len full))(hob:s.H[id]?=some ⟨kd,ty,sz,rows,0⟩)(hkd:kd=1\/kd=2)(hlen:len=rows.length)
 (hsh:∀r∈rows,∀c∈r,jc c=true/\zx c=true):zq B s ⟨s.tmps.set t (.fh 0 sz rows),s.H.set id ⟨1,0,sz,rows,rows.length⟩⟩:=λm w E a hs=>by
 obtain⟨y,hy,hl⟩:=hs.tmps.get ht;obtain⟨E1,hh1,hl1,g⟩:=hs.heap.IW hl hob hkd hlen hsh;have h2:=(hs.tmps.mono g.le).set hl1 t;have e:a.tmps.toList.set t y=a.tmps.toList:=yy hy;rw[e]at h2;exact⟨E1,⟨hh1,h2,hs.defers.grow hs.heap g,by have:=hs.base;simpa using this⟩,g.iG tA⟩
def zq.shrink(id:Nat){ty sz:Nat}{rows rows':List (List C)}(hob:s.H[id]?=some ⟨2,ty,sz,rows++rows',0⟩)(hno:∀r∈rows++rows',∀c∈r,zx c=true):zq B s ⟨s.tmps,s.H.set id ⟨2,ty,sz,rows,0⟩⟩:=λm w E a hs=>by
 have hrow:=hs.heap.rowsOf hob (.inr J)
 obtain⟨hR,g⟩:=hs.heap.DV hob (.inr J) (ob':=⟨2,ty,sz,rows,0⟩) (.inr J) (λ_=>hs.heap.base.ty id ⟨2,ty,sz,rows++rows',0⟩ hob J) J J aj (gV _) (λr hr=>hrow r (ed _ hr)) hno (λr hr=>hno r (ed _ hr)) λi k c c' u e1 e2 hl _=>by
  have:cellAt (rows++rows') i k=some c':=by
   unfold cellAt at e2 ⊢;cases hr:rows[i]? with
   |none=>rw[hr]at e2;cases e2
   |some r=>rw[hr]at e2;rw[gy (dW.1 hr).1,hr];exact e2
  rw[e1]at this;cases this
  exact hl
 exact⟨E,⟨hR,hs.tmps,hs.defers.grow hs.heap g,by have:=hs.base;simpa using this⟩,g.iG tA⟩
end
def zb.nZ{P:Program}{f:FuncId}{H H1 H2:zm}{args:List C}{r r':C}(h:zb P f H args r H1)(hw:∀B,B<=H.length->B<=H1.length->zq B ⟨[r],H1⟩ ⟨[r'],H2⟩)(hl:H.length<=H2.length):zb P f H args r' H2:=λw E vs hh hl0=>by
 refine(h w E vs hh hl0).mono ?_;rintro e w' ⟨v,E',h1,h2,h3,g⟩;have hHH:H.length<=H1.length:=bT
 obtain⟨E2,hs,g2⟩:=hw H.length (gC _) hHH 0 w' E' ⟨#[v],[]⟩ ⟨h2,LL.one h3,gV _,hHH⟩;have hn2:=hs.heap.n;refine⟨v,E2,h1,hs.heap,hs.tmps.cons_inv.1,⟨⟨by rw[hh.n,hn2];exact hl,λid hops hi=>?_,λid hops hi=>?_,λb o u hu=>g2.le.St _ _ _ (g.le.St _ _ _ hu),λid k u hi hu=>?_⟩,g2.os.trans g.os,g2.tape.trans g.tape,g2.output.trans g.output,pA g.size g2.size,?_,?_,?_⟩⟩
 ·rw[hh.n]at hi;exact(g2.le.β id hops hi).trans (g.le.β id hops tO)
 ·rw[hh.n]at hi;exact(g2.le.κ id hops hi).trans (g.le.κ id hops tO)
 ·rw[hh.n]at hi;exact g2.le.G id k u hi (g.le.G id k u tO hu)
 ·intro k hk ho;exact da
 ·intro b o u hu;rcases g2.jX b o u hu with h1|h1|h1
  ·exact g.jX b o u h1
  ·exact .inr (.inl (pA g.size h1))
  ·rcases g.own b h1 with h4|h4
   ·exact .inr (.inl h4)
   ·exact .inr (.inr h4)
 ·intro b hb;rcases g2.own b hb with h1|h1
  ·exact .inl (pA g.size h1)
  ·exact g.own b h1
section
variable {P:Program} {B:Nat}
structure RK(P:Program)(B:Nat)(c:Code)(t:List C)(H:zm)(K:Exit->List C->zm->Prop):Prop where
 out:qU P B c ⟨t,H⟩ λex s=>K ex s.tmps s.H
def RK.m9{c:Code}{t:List C}{H:zm}{K:Exit->List C->zm->Prop}(h:wpA P B c t H K):RK P B c t H K:=⟨jG h⟩
def RK.nZ{c:Code}{t t1:List C}{H H1:zm}{K:Exit->List C->zm->Prop}(hw:zq B ⟨t,H⟩ ⟨t1,H1⟩)(h:RK P B c t1 H1 K):RK P B c t H K:=⟨.pre hw h.out⟩
def RK.seq{x y:Code}{t:List C}{H:zm}{K:Exit->List C->zm->Prop}(h:RK P B x t H λex t1 H1=>match ex with
  |.normal=>RK P B y t1 H1 K
  |ex=>K ex t1 H1):RK P B (.seq x y) t H K:=⟨.seq (h.out.mono λex s1 h1=>by
 cases ex with
 |normal=>exact(show RK P B y s1.tmps s1.H K from h1).out
 |_=>exact h1)⟩
def RK.block{id:Nat}{c:Code}{t:List C}{H:zm}{K:Exit->List C->zm->Prop}(h:RK P B c t H λex t1 H1=>match ex with
  |.exit id'=>if id'=id then K .normal t1 H1 else K (.exit id') t1 H1
  |ex=>K ex t1 H1):RK P B (.block id c) t H K:=⟨.block (h.out.mono λex s1 h1=>by
 cases ex with
 |exit id'=>exact h1
 |_=>exact h1)⟩
structure OK(P:Program)(B:Nat)(ops:Array Oper)(l:List Oper)(t:List C)(H:zm)(R:S->Prop):Prop where
 out:vd P B ops l ⟨t,H⟩ R
def FG{ops:Array Oper}{l':List Oper}{R:S->Prop}:∀{l:List Oper} {t:List C} {H:zm},l7 P ops l t H (λt1 H1=>OK P B ops l' t1 H1 R)->vd P B ops (l++l') ⟨t,H⟩ R
 |[],t,H,h=>(show OK P B ops l' t H R from h).out
 |o::l,t,H,h=>by
  rw[Ig]at h;unfold DD at h;split at h
  ·rename_i hw;refine .run (s:=⟨t,H⟩) hw (.B4 (s:=⟨t,H⟩) (FF h)) ?_;rintro s1 ⟨c,H',h1,rfl⟩;exact FG (jD (k:=λt=>l7 P ops l t H' λt1 H1=>OK P B ops l' t1 H1 R) h1)
  ·rename_i hw;exact .pass (s:=⟨t,H⟩) hw (FG (jD (k:=λt=>l7 P ops l t H λt1 H1=>OK P B ops l' t1 H1 R) h))
  ·exact cT
def qe.zzn{c:Code}{t:List C}{H:zm}{K:Exit->List C->zm->Prop}(I:Nat->List C->zm->Prop)(n:Nat)(h0:∃t0 H0,zq B ⟨t,H⟩ ⟨t0,H0⟩/\I n t0 H0)
 (step:∀n t H,I n t H->RK P B c t H λe t1 H1=>(e=.normal/\∃m t2 H2,m<n/\zq B ⟨t1,H1⟩ ⟨t2,H2⟩/\I m t2 H2)\/(e≠.normal/\K e t1 H1)):
  Bh P B c t H K:=by
 obtain⟨t0,H0,hw,hI⟩:=h0;refine⟨.pre hw ?_⟩
 suffices key:∀n t H,I n t H->lH P B c (n+1) ⟨t,H⟩ λex s=>K ex s.tmps s.H from⟨n+1,key n t0 H0 hI⟩
 intro n
 induction n using Nat.strongRecOn with
 |_ n ih=>
  intro t H hI;refine .step ((step n t H hI).out.post λex s1 h1=>?_);rcases h1 with⟨rfl,m,t2,H2,hm,hw2,hI2⟩|⟨hne,hK⟩
  ·exact⟨⟨t2,H2⟩,hw2,(lH.more aw (ih m hm t2 H2 hI2):lH P B c n ⟨t2,H2⟩ _)⟩
  ·refine⟨s1,.refl s1,?_⟩;cases ex with
   |normal=>exact absurd J hne
   |_=>exact hK
def zq.zzr(id:Nat){s:S}{z l:Nat}{r:Obj}{t t':List C}(hob:s.H[id]?=some (vD z l r t))(hf:CZ r=true)(hw:iL t t'):zq B s ⟨s.tmps,s.H.set id (vD z l r t')⟩:=λm w E a hs=>by
 have hL:=(hs.heap.fm.iD id _ r t hob J ⟨rfl,rfl⟩).1.1;obtain⟨h1,g⟩:=hs.heap.setObj (r':=r) (t':=t') hob hf λh=>h.imp (λhl=>hw.LL hl) λ⟨es,k,e,hl⟩=>⟨es,k,e,hw.LL hl⟩
 have e:w.putObj l r=w:=by
  unfold World.putObj
  have:w.heap.setIfInBounds l r=w.heap:=by
   apply eG
   intro k;rw[sY];split
   ·rename_i hk;subst hk;rw[gh (gI.1 hL).1,hL]
   ·rfl
  rw[this]
 rw[e]at h1 g;exact⟨E,⟨h1,hs.tmps,hs.defers.grow hs.heap g,by have:=hs.base;simpa using this⟩,g.iG tA⟩
def zq.YZ(t:Nat){s:S}{id sz ty:Nat}{row:List C}(ht:s.tmps[t]?=some (.ref id [] sz 0 0))(hob:s.H[id]?=some ⟨1,ty,sz,[row],0⟩)(hsh:∀c∈row,jc c=true/\zx c=true):
  zq B s ⟨s.tmps.set t (.jt row),s.H.set id ⟨1,0,sz,[row],1⟩⟩:=λm w E a hs=>by
 obtain⟨y,hy,hl⟩:=hs.tmps.get ht
 obtain⟨hn,rfl⟩:id<E.n/\y=.pointer (some ⟨E.β id [],0,none⟩):=by
  cases hl with
  |ref _ _ _ _ _ hn=>exact⟨hn,aj⟩
 have hb:=hs.heap.base.fD _ _ [] sz [row] hob (wJ hob (.inl J));have hl0:L E (.sl id [] sz 0 1 false) (.slice (some ⟨E.β id [],0*sz,none⟩) 1 (E.κ id [])):=.sl id [] sz 0 1 false (E.κ id []) hn hb.len (λh=>by cases h) (λ_=>gP _);obtain⟨E1,hh1,hl1,g⟩:=hs.heap.IW hl0 hob (.inl J) J λr hr=>by rw[gX.1 hr];exact hsh
 have hl2:L E1 (.jt row) (.pointer (some ⟨E.β id [],0,none⟩)):=by
  rw[uj]at hl1;generalize hv:Value.slice (some ⟨E.β id [],0,none⟩) 1 (E.κ id [])=v at hl1;cases hl1 with
  |fh o sz rows b off cap us ho hc hsz hst hL=>
   cases hv
   refine .jt row _ _ (us 0) (λk c hk=>?_) (λk c hk=>hL 0 row k c J hk);have:=hst 0 row k c J hk;simpa using this
 have h2:=(hs.tmps.mono g.le).set hl2 t;have e:a.tmps.toList.set t (.pointer (some ⟨E.β id [],0,none⟩))=a.tmps.toList:=yy hy;rw[e]at h2;exact⟨E1,⟨hh1,h2,hs.defers.grow hs.heap g,by have:=hs.base;simpa using this⟩,g.iG tA⟩
def vd.Jl{ops:Array Oper}{o3 o4:Oper}{d:Tmp}{ty:TypeId}{y:Operand}{row zero:List C}{t:List C}{H:zm}{R:S->Prop}{inf:TypeInfo}
 (h3:o3.op=.alloc ty)(hd:o3.dst=some d)(hw3:jm ops t o3=some true)(h4:o4.op=.store ty (.tmp d) y)(hd4:o4.dst=none)(hw4:jm ops (put t (some d) (.ref H.length [] zero.length 0 0)) o4=some true)
 (hz:nk P ty=some zero)(hi:P.info? ty=some inf)(hsz:inf.size=row.length)(hlen:zero.length=row.length)(hzo:zero.all zx=true)(hy:y≠.tmp d)(hrow:ev t y=.agg row)(hsh:∀c∈row,jc c=true/\zx c=true)(hdl:d<t.length)
 (hB:B<=H.length)(hrl:zX H.length H=true)(htl:(put t (some d) (.jt row)).map (xz H.length 9)=put t (some d) (.jt row))(hR:R ⟨put t (some d) (.jt row),H⟩):
  vd P B ops [o3,o4] ⟨t,H⟩ λs=>∃s2,zq B s s2/\R s2:=by
 have a3:fy P o3 (ev t) H (.ref H.length [] zero.length 0 0) (H++[⟨1,ty,zero.length,[zero],0⟩]):=.Dh (.alloc ty h3 hz) _ (by show(1:Nat)≠4;decide) J;refine .run (s:=⟨t,H⟩) hw3 (ox.B4 (s:=⟨t,H⟩) (a3.iO (R:=λc X=>c=.ref H.length [] zero.length 0 0/\X=H++[⟨1,ty,zero.length,[zero],0⟩]) ⟨rfl,rfl⟩)) ?_;rintro _ ⟨_,_,⟨rfl,rfl⟩,rfl⟩;rw[hd];have hgb:qf (H++[⟨1,ty,zero.length,[zero],0⟩]) H.length []=some (zero.length,[zero]):=by simp[qf,v7]
 have hst:y7 P (H++[⟨1,ty,zero.length,[zero],0⟩]) ty (.ref H.length [] zero.length 0 0) (.agg row)=some (H++[⟨1,ty,zero.length,[row],0⟩]):=by
  unfold y7;rw[hi];dsimp only;rw[hgb,show(H++[⟨1,ty,zero.length,[zero],0⟩]:zm)[H.length]?=some ⟨1,ty,zero.length,[zero],0⟩ from aj];dsimp only;rw[show([zero]:List (List C))[0]?=some zero from J];dsimp only;have h1:mH (.agg row)=true:=gz.2 λc hc=>(hsh c hc).2
  rw[gh]
  ·congr 1
   unfold mV;apply pq
   intro j;rw[pL];by_cases hj:j<H.length
   ·rw[gy hj,gy hj];cases H[j]? with
    |none=>rfl
    |some x=>simp[show ¬H.length=j from aw]
   ·by_cases hj2:j=H.length
    ·subst hj2;simp[qn,kK,C.cells,hlen,x7]
    ·rw[pG aA,pG aA]
     rfl
  ·simp only[gA,pX,pF,gH,C.cells];refine⟨⟨⟨⟨⟨⟨⟨?_,h1⟩,hsz.symm⟩,?_⟩,?_⟩,?_⟩,?_⟩,?_⟩
   ·trivial
   ·simp[hlen]
   rotate_left
   ·simp
   ·simp
   ·simp
   refine gz.2 λc hc=>gz.1 hzo c (r6 (rB hc))
 have e1:ev (put t (some d) (.ref H.length [] zero.length 0 0)) (.tmp d)=.ref H.length [] zero.length 0 0:=by
  unfold ev put;simp[hdl]
 have e2:ev (put t (some d) (.ref H.length [] zero.length 0 0)) y=.agg row:=by
  rw[<-hrow];exact Gj λd' hd'=>by cases hd';exact hy
 have a4:fy P o4 (ev (put t (some d) (.ref H.length [] zero.length 0 0))) (H++[⟨1,ty,zero.length,[zero],0⟩]) .un (H++[⟨1,ty,zero.length,[row],0⟩]):=by
  have h0:qO P o4 (ev (put t (some d) (.ref H.length [] zero.length 0 0))) (H++[⟨1,ty,zero.length,[zero],0⟩]) .un (H++[⟨1,ty,zero.length,[row],0⟩]):=.store ty (.tmp d) y h4 (by rw[e1,e2];exact hst);refine .Ay h0 ?_;have:=HC (P:=P) hst;exact dG
 refine .run hw4 (ox.B4 (a4.iO (R:=λc X=>c=.un/\X=H++[⟨1,ty,zero.length,[row],0⟩]) ⟨rfl,rfl⟩)) ?_;rintro _ ⟨_,_,⟨rfl,rfl⟩,rfl⟩;rw[hd4];refine .nil ⟨⟨put t (some d) (.jt row),H⟩,?_,hR⟩;have w1:=zq.YZ (B:=B) d (s:=⟨put t (some d) (.ref H.length [] zero.length 0 0),H++[⟨1,ty,zero.length,[row],0⟩]⟩) (id:=H.length) (sz:=zero.length) (ty:=ty) (row:=row) (by unfold put;simp[hdl]) aj hsh;have e3:(put t (some d) (.ref H.length [] zero.length 0 0)).set d (.jt row)=put t (some d) (.jt row):=by unfold put;simp
 have e4:(H++[⟨1,ty,zero.length,[row],0⟩]:zm).set H.length ⟨1,0,zero.length,[row],1⟩=H++[⟨1,0,zero.length,[row],1⟩]:=aj
 dsimp only at w1;rw[e3,e4]at w1;refine w1.trans ?_;have w2:=zq.low (B:=B) H.length (put t (some d) (.jt row)) (H++[⟨1,0,zero.length,[row],1⟩]) (u6 hB) (u6 aj) (by rw[sM (gC _),gZ];exact hrl);rw[htl,sM (gC _),gZ]at w2;exact w2
def RK.Ni{id:Nat}{ops:Array Oper}(l l':List Oper){t:List C}{H:zm}{K:Exit->List C->zm->Prop}(hops:ops.toList=l++l')(h:l7 P ops l t H λt1 H1=>OK P B ops l' t1 H1 λs=>K .normal s.tmps s.H):RK P B (.region id ops false) t H K:=by
 refine⟨.region ?_⟩;rw[hops];exact FG h
def OK.Jl{ops:Array Oper}{o3 o4:Oper}{d:Tmp}{ty:TypeId}{y:Operand}{row zero:List C}{t:List C}{H:zm}{c:Code}{K:Exit->List C->zm->Prop}{inf:TypeInfo}
 (h3:o3.op=.alloc ty)(hd:o3.dst=some d)(hw3:jm ops t o3=some true)(h4:o4.op=.store ty (.tmp d) y)(hd4:o4.dst=none)(hw4:jm ops (put t (some d) (.ref H.length [] zero.length 0 0)) o4=some true)
 (hz:nk P ty=some zero)(hi:P.info? ty=some inf)(hsz:inf.size=row.length)(hlen:zero.length=row.length)(hzo:zero.all zx=true)(hy:y≠.tmp d)(hrow:ev t y=.agg row)(hsh:∀c∈row,jc c=true/\zx c=true)(hdl:d<t.length)
 (hB:B<=H.length)(hrl:zX H.length H=true)(htl:(put t (some d) (.jt row)).map (xz H.length 9)=put t (some d) (.jt row))(hR:RK P B c (put t (some d) (.jt row)) H K):
  OK P B ops [o3,o4] t H λs=>RK P B c s.tmps s.H K:=by
 have h:=vd.Jl (P:=P) (B:=B) (R:=λs=>RK P B c s.tmps s.H K) h3 hd hw3 h4 hd4 hw4 hz hi hsz hlen hzo hy hrow hsh hdl hB hrl htl hR;exact⟨λq m w E a Q hs hq=>h q m w E a Q hs λs w' E' a' ⟨s2,hw,hr⟩ h1 g1=>hq s w' E' a' (.nZ hw hr) h1 g1⟩
def RK.cond{c:Operand}{x y:Code}{b:Bool}{t:List C}{H:zm}{K:Exit->List C->zm->Prop}(hc:ev t c=.v (.bool b))(h:RK P B (if b then x else y) t H K):RK P B (.cond c x y) t H K:=⟨.cond (s:=⟨t,H⟩) hc h.out⟩
def OK.nil{ops:Array Oper}{t:List C}{H:zm}{R:S->Prop}(h:R ⟨t,H⟩):OK P B ops [] t H R:=⟨.nil h⟩
def OK.run{ops:Array Oper}{o:Oper}{l:List Oper}{t:List C}{H:zm}{R:S->Prop}(hw:jm ops t o=some true)(h:qT P o (ev t) H λc H'=>OK P B ops l (put t o.dst c) H' R):OK P B ops (o::l) t H R:=
 ⟨.run (s:=⟨t,H⟩) hw (.B4 (s:=⟨t,H⟩) h) (by rintro s1 ⟨c,H',h1,rfl⟩;exact h1.out)⟩
def OK.app{ops:Array Oper}(l l':List Oper){t:List C}{H:zm}{R:S->Prop}(h:l7 P ops l t H λt1 H1=>OK P B ops l' t1 H1 R):OK P B ops (l++l') t H R:=⟨FG h⟩
variable {o:Oper} {ρ:Operand->C} {H:zm}
def fy.Kb(x:Operand)(ho:o.op=.move x\/o.op=.assign x):fy P o ρ H (ρ x) H:=.same <|.move x ho
def fy.R5(cl:Call)(ho:o.op=.call cl)(x y:Operand){e:TypeId}{i:TypeInfo}{z:Value}(ht:Ap P cl x y e i z){sz:Nat}{rows:List (List C)}(hx:ρ x=.fh 1 sz rows)(hsz:rows=[]\/sz=i.size)
 {rows':List (List C)}(hy:xJ H (Ab.fZ (ρ y))=some (i.size,rows'))(hne:rows'≠[])(hm:rows.length+rows'.length<=maxLen)(hb:(rows.length+rows'.length)*i.bytes<=140737488355328):
  fy P o ρ H (.sl H.length [] i.size 0 (rows.length+rows'.length) false) (H++[⟨2,e,i.size,rows++rows',0⟩]):=
 .fZ (ρ:=ρ) (.Dh (.Mg cl ho x y ht (by rw[hx];rfl) hsz hy hne hm hb) _ (λe=>by cases e) rfl)
def fy.SV(cl:Call)(ho:o.op=.call cl)(x y:Operand){e:TypeId}{i:TypeInfo}{z:Value}(ht:Ap P cl x y e i z){id n:Nat}(hx:ρ x=.sl id [] i.size 0 n false){ob:Ob}(hob:H[id]?=some ob)
 (hkd:ob.kind=2)(hty:ob.ty=e)(hsz:ob.sz=i.size)(hn:ob.rows.length=n)(hno:ob.rows.all (·.all zx)=true)
 {rows':List (List C)}(hy:xJ H (Ab.fZ (ρ y))=some (i.size,rows'))(hne:rows'≠[])(hm:n+rows'.length<=maxLen)(hb:(n+rows'.length)*i.bytes<=140737488355328):
  fy P o ρ H (.sl H.length [] i.size 0 (n+rows'.length) false) (jP H id++[⟨2,e,i.size,ob.rows++rows',ob.fz⟩]):=
 .fZ (ρ:=ρ) (.Ay (.Nb cl ho x y ht (by rw[hx];rfl) hob hkd hty hsz hn hno hy hne hm hb) (jH.trans (jH.jP H id λob' h'=>by rw[hob]at h';cases h';rw[hkd];decide) (jH.push _ _ (λe=>by cases e))))
def zZ{f:FuncId}(sel:List Nat)(Kx:zm){K H0 H':zm}{args args0:List C}{r rx:C}(h:zb P f H0 args0 r H')(hR:qt H'=true)
 (hH:xC sel K=H0)(ha:args.map (xO sel 9)=args0)(z8:sel.all (λid=>Nat.blt id K.length)=true)(iw:yl sel=true)(fW:qt K=true){k:C->zm->Prop}
 (hp:wC sel K H'=Kx)(hr:vn (jf sel K.length) 9 r=rx)(hk:okB rx λc=>k c Kx):∃r H2,zb P f K args r H2/\okB r λc=>k c H2:=
 ⟨_,_,h.part sel hR hH ha z8 iw fW,by rw[hp,hr];exact hk⟩
end
def zb.BH{P:Program}{f:FuncId}{fn:Func}{c:Code}{args:List C}{r:C}(hf:P.funcs[f]?=some fn)(hb:fn.body=some c)
 (h:qU P 0 c ⟨entry fn args,[]⟩ λex s=>(ex=.ret\/ex=.normal)/\∃s2,zq 0 s s2/\(kB P fn s2).map (xz 0 9)=some r):zb P f [] args r []:=by
 refine qI.JH (qI.o7 (H:=[]) hf hb (h.mono λex s1 ⟨hex,s2,hw,h2⟩=>?_));cases h3:kB P fn s2 with
 |none=>rw[h3]at h2;cases h2
 |some r0=>
  rw[h3]at h2;cases h2
  exact⟨hex,s2,r0,hw,h3,rfl⟩
def E0(w:World):Env:=
 {n:=0,β:=λ_ _=>0,κ:=λ_ _=>0,St:=λb o=>match w.cell? ⟨b,o,none⟩ with|some u=>if u.oneCell' then some u else none|none=>none}
def PA{w:World}{b o:Nat}{u:Value}:(E0 w).St b o=some u↔w.cell? ⟨b,o,none⟩=some u/\u.oneCell'=true:=by
 unfold E0;dsimp only;cases h:w.cell? ⟨b,o,none⟩ with
 |none=>simp
 |some v=>
  dsimp only;split
  ·rename_i h1;constructor
   ·intro e;cases e;exact⟨rfl,h1⟩
   ·rintro⟨e,_⟩;exact e
  ·rename_i h1;constructor
   ·intro e;cases e
   ·rintro⟨e,h2⟩;cases e;exact absurd h2 h1
def Za(w:World):qA w (E0 w) [] where
 base:=⟨rfl,aj,by simp[qf],λb o u h=>PA.1 h,by simp[qf],aj,aj⟩
 fm:=⟨aj,aj,λid b ⟨ob,_,h,_⟩=>by simp at h,λ_ _ b ⟨ob,_,h,_⟩=>by simp at h,aj,aj,aj,λ_ _ b ⟨ob,_,_,h,_⟩=>by simp at h⟩
def fits(P:Program){H:Type}(t:TypeId)(d:DataW H):Prop:=(d.weights P t).all (·<=reachBytes)=true
def qx(P:Program)(t:TypeId){α:Type}(enc:α->List C)(wf:α->Prop):Prop:=
 ∀{H:Type} (eH:TypeId×Value->H) (w:World) (fuel:Nat) (cs:List Value) (d:DataW H) (ps:List MemPlace),
  DataW.trod eH P w 0 (λ_=>true) true fuel t cs=some (d,ps)->fits P t d->∃x,wf x/\LL (E0 w) (enc x) cs/\∀u∈cs,u.oneCell'=true
section
variable {P:Program} {t:TypeId}
def qx.int{k:IntKind}(ht:P.underlying t=some (.int k)):qx P t (λn:Int=>[.v (.int k n)]) (λn=>(Lit.int k n).wf=true):=by
 intro H eH w fuel cs d ps h _;cases fuel with
 |zero=>cases h
 |succ fuel=>
  rcases cs with _|⟨v,_|⟨v2,r⟩⟩
  ·simp[DataW.trod,ht]at h
  ·cases v <;> simp[DataW.trod,ht]at h
   obtain⟨⟨rfl,hw⟩,_⟩:=h;exact⟨_,hw,.one (.v _ J),bX⟩
  ·simp[DataW.trod,ht]at h
def qx.bool(ht:P.underlying t=some .bool):qx P t (λb:Bool=>[.v (.bool b)]) (λ_=>True):=by
 intro H eH w fuel cs d ps h _;cases fuel with
 |zero=>cases h
 |succ fuel=>
  rcases cs with _|⟨v,_|⟨v2,r⟩⟩
  ·simp[DataW.trod,ht]at h
  ·cases v <;> simp[DataW.trod,ht]at h
   exact⟨_,trivial,.one (.v _ J),bX⟩
  ·simp[DataW.trod,ht]at h
def qx.string(ht:P.underlying t=some .string):qx P t (λs:ByteArray=>[.v (.string s)]) (λs=>s.size<=reachBytes):=by
 intro H eH w fuel cs d ps h hf;cases fuel with
 |zero=>cases h
 |succ fuel=>
  rcases cs with _|⟨v,_|⟨v2,r⟩⟩
  ·simp[DataW.trod,ht]at h
  ·cases v <;> simp[DataW.trod,ht]at h
   obtain⟨_,rfl,_⟩:=h;refine⟨_,?_,.one (.v _ J),bX⟩;simpa [fits,DataW.weights] using hf
  ·simp[DataW.trod,ht]at h
def XH{w:World}{a:Addr}(ha:a.spot=none){n:Nat}{cs:List Value}(h:w.cells? 0 a n=some cs):cs.length=n/\∀(j:Nat) u,cs[j]?=some u->w.cell? ⟨a.block,a.off+j,none⟩=some u:=by
 unfold World.cells? at h;rw[gh (gV _)]at h
 have key:∀(m k:Nat) (cs:List Value),((List.range' k m).mapM λi=>w.cell? (a.add i))=some cs->cs.length=m/\∀(j:Nat) u,cs[j]?=some u->w.cell? (a.add (k+j))=some u:=by
  intro m
  induction m with
  |zero=>intro k cs h;simp at h;subst h;simp
  |succ m ih=>
   intro k cs h;rw[List.range'_succ,sU]at h;cases h1:w.cell? (a.add k) with
   |none=>rw[h1]at h;cases h
   |some u0=>
    rw[h1]at h;cases h2:((List.range' (k+1) m).mapM λi=>w.cell? (a.add i)) with
    |none=>rw[h2]at h;cases h
    |some r=>
     rw[h2]at h;cases h
     obtain⟨h3,h4⟩:=ih (k+1) r h2;refine⟨bM,?_⟩;intro j u hj;cases j with
     |zero=>simp at hj;subst hj;exact h1
     |succ j=>simp at hj;have:=h4 j u hj;rw[show k+1+j=k+(j+1) by omega]at this;exact dG
 rw[tu]at h;obtain⟨h1,h2⟩:=key n 0 cs h;refine⟨h1,λj u hj=>?_⟩;have:=h2 j u hj;rw[gP]at this;unfold Addr.add at this;split at this
 ·rename_i hj0;subst hj0;obtain⟨b,o,sp⟩:=a;cases ha;exact dG
 ·exact dG
def Ff{β:Type}{f:Nat->Option β}:∀{n k:Nat} {xs:List β},(List.range' k n).mapM f=some xs->xs.length=n/\∀(j:Nat) x,xs[j]?=some x->f (k+j)=some x
 |0,k,xs,h=>by simp at h;subst h;simp
 |n+1,k,xs,h=>by
  rw[List.range'_succ,sU]at h;cases h1:f k with
  |none=>rw[h1]at h;cases h
  |some u0=>
   rw[h1]at h;cases h2:(List.range' (k+1) n).mapM f with
   |none=>rw[h2]at h;cases h
   |some r=>
    rw[h2]at h;cases h
    obtain⟨h3,h4⟩:=Ff h2;refine⟨bM,?_⟩;intro j u hj;cases j with
    |zero=>simp at hj;subst hj;exact h1
    |succ j=>simp at hj;have:=h4 j u hj;rw[show k+1+j=k+(j+1) by omega]at this;exact dG
def VV{w:World}{a:Addr}{u:Value}(h:w.cell? a=some u):a.spot=none:=by
 unfold World.cell? at h;split at h
 ·split at h
  ·cases h
  ·rename_i hs;simpa using hs
 ·cases h
def L9{w:World}{a:Addr}{n:Nat}{cs:List Value}(h:w.cells? 0 a n=some cs)(hn:0<n):a.spot=none:=by
 unfold World.cells? at h;rw[gh (gV _),tu]at h;obtain⟨h1,h2⟩:=Ff h;have h3:cs[0]?=some cs[0]:=by simp[h1,hn]
 have:=h2 0 _ h3;simp[Addr.add]at this;exact VV this
def KS{H:Type}{e:TypeId}:∀{l:List (DataW H)} {d:DataW H},d∈l->∀n∈d.weights P e,n∈DataW.weightsAll P e l
 |d0::l,d,hd,n,hn=>by
  simp only[DataW.weightsAll,gY];rcases rz.1 hd with rfl|hd
  ·exact .inl hn
  ·exact .inr (KS hd n hn)
def qx.slice{e:TypeId}{α:Type}{enc:α->List C}{wf:α->Prop}(ht:P.underlying t=some (.slice e)){sz by_:Nat}(hc:P.cellsOf e=sz)(hb:P.bytesOf e=by_)(hpos:0<sz)(hsz:∀x,(enc x).length=sz)
 (h:qx P e enc wf):qx P t (λl:List α=>[.fh 0 sz (l.map enc)]) (λl=>(∀x∈l,wf x)/\l.length*by_<=reachBytes):=by
 subst hc;subst hb;intro H eH w fuel cs d ps hr hf;cases fuel with
 |zero=>cases hr
 |succ fuel=>
  rcases cs with _|⟨v,_|⟨v2,r⟩⟩
  ·simp[DataW.trod,ht]at hr
  rotate_left
  ·simp[DataW.trod,ht]at hr
  have nil:∀a,∃x:List α,((∀y∈x,wf y)/\x.length*P.bytesOf e<=reachBytes)/\LL (E0 w) [.fh 0 (P.cellsOf e) (x.map enc)] [.slice a 0 0]/\∀u∈[Value.slice a 0 0],u.oneCell'=true:=λa=>
   ⟨[],⟨aj,aj⟩,.one (.xx 0 _ (.inl J) a),bX⟩
  cases v with
  |slice a len cap=>
   cases a with
   |none=>
    by_cases hz:len=0/\cap=0
    ·obtain⟨rfl,rfl⟩:=hz;exact nil none
    ·exfalso
     unfold DataW.trod at hr;rw[ht]at hr;dsimp only at hr;split at hr <;> simp_all
   |some a=>
    simp only[DataW.trod,ht]at hr;split at hr
    rotate_left
    ·cases hr
    rename_i hbound;rw[tu]at hr;simp only[tu,if_true]at hr;cases h1:(List.range' 0 len).mapM λi=>(w.cells? 0 (a.add (i*P.cellsOf e)) (P.cellsOf e)).bind (DataW.trod eH P w 0 (λ_=>true) true fuel e) with
    |none=>rw[h1]at hr;cases hr
    |some elems=>
     rw[h1]at hr;simp only[gT]at hr;cases h2:(List.range' 0 (cap-len)).mapM λj=>(w.cells? 0 (a.add ((len+j)*P.cellsOf e)) (P.cellsOf e)).bind (DataW.trod eH P w 0 (λ_=>true) true fuel e) with
     |none=>rw[h2]at hr;cases hr
     |some rest=>
      rw[h2]at hr;simp only[gF,gQ,Prod.mk.injEq]at hr;obtain⟨rfl,_⟩:=hr;obtain⟨l1,g1⟩:=Ff h1;obtain⟨l2,g2⟩:=Ff h2;by_cases hz:cap=0
      ·have hl0:len=0:=by omega
       subst hz;subst hl0;exact nil (some a)
      ·have hspot:a.spot=none:=by
        by_cases hl:len=0
        ·have h3:rest[0]?=some (rest[0]'aw):=dX _;have h4:=g2 0 _ h3;subst hl;simp only[gP,uj]at h4;cases h5:w.cells? 0 (a.add 0) (P.cellsOf e) with
         |none=>rw[h5]at h4;cases h4
         |some cs=>have:=L9 h5 hpos;simpa [Addr.add] using this
        ·have h3:elems[0]?=some (elems[0]'aw):=dX _;have h4:=g1 0 _ h3;simp only[gP,uj]at h4;cases h5:w.cells? 0 (a.add 0) (P.cellsOf e) with
         |none=>rw[h5]at h4;cases h4
         |some cs=>have:=L9 h5 hpos;simpa [Addr.add] using this
       have hfw:=hf;simp only[fits,DataW.weights,ht,rW,ue,gA,gH]at hfw;obtain⟨hf1,hf2,_⟩:=hfw
       have each:∀i,i<len->∃x,wf x/\∃cs,w.cells? 0 (a.add (i*P.cellsOf e)) (P.cellsOf e)=some cs/\LL (E0 w) (enc x) cs/\∀u∈cs,u.oneCell'=true:=by
        intro i hi;have h3:elems[i]?=some elems[i]:=by simp[l1,hi]
        have h4:=g1 i _ h3;rw[gP]at h4;cases h5:w.cells? 0 (a.add (i*P.cellsOf e)) (P.cellsOf e) with
        |none=>rw[h5]at h4;cases h4
        |some cs=>
         rw[h5]at h4
         obtain⟨x,hx1,hx2,hx3⟩:=h eH w fuel cs elems[i].1 elems[i].2 h4 (by
          unfold fits;rw[gz];intro n hn;refine gz.1 hf2 n (KS ?_ n hn);simp only[gR];exact⟨elems[i],aj,rfl⟩)
         exact⟨x,hx1,cs,rfl,hx2,hx3⟩
       have pick:∃xs:List α,xs.length=len/\∀(i:Nat) x,xs[i]?=some x->wf x/\∃cs,w.cells? 0 (a.add (i*P.cellsOf e)) (P.cellsOf e)=some cs/\LL (E0 w) (enc x) cs/\∀u∈cs,u.oneCell'=true:=by
        clear h1 h2 l1 l2 g1 g2 hf hf1 hf2
        clear hbound nil
        induction len with
        |zero=>exact⟨[],rfl,aj⟩
        |succ n ih=>
         obtain⟨xs,hx1,hx2⟩:=ih (λi hi=>each i aw);obtain⟨x,hx3⟩:=each n aw;refine⟨xs++[x],by simp[hx1],?_⟩;intro i y hy;by_cases hi:i<n
         ·rw[gy aw]at hy;exact hx2 i y hy
         ·rw[gG aw]at hy
          have:i-xs.length=0:=by
           have:=(dW.1 hy).1;exact cW
          rw[this]at hy;cases hy
          obtain rfl:i=n:=aw
          exact hx3
       obtain⟨xs,hx1,hx2⟩:=pick;refine⟨xs,⟨λx hx=>?_,?_⟩,.one ?_,bX⟩
       ·obtain⟨i,hi⟩:=gE.1 hx;exact(hx2 i x hi).1
       ·rw[hx1];have:len*P.bytesOf e<=cap*P.bytesOf e:=pR _ hbound.2.1;simp[l1,l2]at hf1;have e1:len+(cap-len)=cap:=by omega
        rw[e1]at hf1;omega
       ·obtain⟨b,off,sp⟩:=a;cases hspot
        have cell:∀i r k c,(xs.map enc)[i]?=some r->r[k]?=some c->∃u,(E0 w).St b (off+i*P.cellsOf e+k)=some u/\L (E0 w) c u:=by
         intro i r k c hr hc;rw[gf]at hr;cases hxi:xs[i]? with
         |none=>rw[hxi]at hr;cases hr
         |some x=>
          rw[hxi]at hr;cases hr
          obtain⟨_,cs,e1,e2,e3⟩:=hx2 i x hxi;obtain⟨u,hu,hl⟩:=e2.get hc;obtain⟨_,hcell⟩:=XH (a:=(⟨b,off,none⟩:Addr).add (i*P.cellsOf e)) (by unfold Addr.add;split <;> rfl) e1;have:=hcell k u hu;rw[xP]at this;exact⟨u,PA.2 ⟨this,e3 u (dY hu)⟩,hl⟩
        have hlen:(xs.map enc).length=len:=by simp[hx1]
        have:=L.fh (E:=E0 w) 0 (P.cellsOf e) (xs.map enc) b off cap (λi k=>((E0 w).St b (off+i*P.cellsOf e+k)).getD undef) (.inl J) (by rw[hlen];exact hbound.2.1) ?_ ?_ ?_
        ·rw[hlen]at this;exact dG
        ·intro r hr;obtain⟨x,_,rfl⟩:=gR.1 hr;exact hsz x
        ·intro i r k c h5 h6;obtain⟨u,hu,_⟩:=cell i r k c h5 h6;rw[hu];rfl
        ·intro i r k c h5 h6;obtain⟨u,hu,hl⟩:=cell i r k c h5 h6;rw[hu];exact hl
  |_=>
   unfold DataW.trod at hr;rw[ht]at hr;simp at hr
def qx.map{α β:Type}{enc:α->List C}{wf:α->Prop}{enc':β->List C}{wf':β->Prop}(h:qx P t enc wf)(g:α->β)(hg:∀a,wf a->wf' (g a)/\enc' (g a)=enc a):qx P t enc' wf':=by
 intro H eH w fuel cs d ps hr hf;obtain⟨x,h1,h2,h3⟩:=h eH w fuel cs d ps hr hf;exact⟨g x,(hg x h1).1,by rw[(hg x h1).2];exact h2,h3⟩
def jj(P:Program)(fs:List Field)(off:Nat){α:Type}(enc:α->List C)(wf:α->Prop):Prop:=
 ∀{H:Type} (eH:TypeId×Value->H) (w:World) (fuel:Nat) (cs:List Value) (xs:List (DataW H×List MemPlace)),
  (fs.mapM λf=>DataW.trod eH P w 0 (λ_=>true) true fuel f.type ((cs.drop f.offset).take (P.cellsOf f.type)))=some xs->
  (DataW.weightsEach P (fs.map (·.type)) (xs.map (·.1))).all (·<=reachBytes)=true->cs.length=off+(fs.map λf=>P.cellsOf f.type).sum->∃x,wf x/\LL (E0 w) (enc x) (cs.drop off)/\∀u∈cs.drop off,u.oneCell'=true
def jj.nil(off:Nat):jj P [] off (λ_:Unit=>[]) (λ_=>True):=by
 intro H eH w fuel cs xs _ _ hl;simp at hl;rw[List.drop_eq_nil_of_le aw];exact⟨(),trivial,LL.nil,aj⟩
def jj.cons{f:Field}{fs:List Field}{off:Nat}{α β:Type}{enc:α->List C}{wf:α->Prop}{enc':β->List C}{wf':β->Prop}(ho:f.offset=off)(h:qx P f.type enc wf)(h':jj P fs (off+P.cellsOf f.type) enc' wf'):
  jj P (f::fs) off (λx:α×β=>enc x.1++enc' x.2) (λx=>wf x.1/\wf' x.2):=by
 intro H eH w fuel cs xs hm hf hl;rw[sU]at hm;cases h1:DataW.trod eH P w 0 (λ_=>true) true fuel f.type ((cs.drop f.offset).take (P.cellsOf f.type)) with
 |none=>rw[h1]at hm;cases hm
 |some x1=>
  rw[h1]at hm;cases h2:(fs.mapM λf=>DataW.trod eH P w 0 (λ_=>true) true fuel f.type ((cs.drop f.offset).take (P.cellsOf f.type))) with
  |none=>rw[h2]at hm;cases hm
  |some r=>
   rw[h2]at hm;cases hm
   simp only[pN,DataW.weightsEach,ue,gA]at hf;obtain⟨a,a1,a2,a3⟩:=h eH w fuel _ x1.1 x1.2 h1 hf.1;obtain⟨b,b1,b2,b3⟩:=h' eH w fuel cs r h2 hf.2 (by simp at hl ⊢;omega);rw[ho]at a2 a3
   have e:cs.drop off=(cs.drop off).take (P.cellsOf f.type)++cs.drop (off+P.cellsOf f.type):=by
    rw[<-List.drop_drop,rX]
   refine⟨(a,b),⟨a1,b1⟩,?_,?_⟩
   ·rw[e];exact a2.append b2
   ·rw[e];intro u hu;rcases gY.1 hu with hu|hu
    ·exact a3 u hu
    ·exact b3 u hu
def qx.struct{fs:Array Field}{α:Type}{enc:α->List C}{wf:α->Prop}(ht:P.underlying t=some (.struct fs))(hc:P.cellsOf t=(fs.toList.map λf=>P.cellsOf f.type).sum)(h:jj P fs.toList 0 enc wf):qx P t enc wf:=by
 intro H eH w fuel cs d ps hr hf;cases fuel with
 |zero=>cases hr
 |succ fuel=>
  unfold DataW.trod at hr;rw[ht]at hr;dsimp only at hr;split at hr
  ·rename_i hl;cases h2:(fs.toList.mapM λf=>DataW.trod eH P w 0 (λ_=>true) true fuel f.type ((cs.drop f.offset).take (P.cellsOf f.type))) with
   |none=>rw[h2]at hr;cases hr
   |some xs=>
    rw[h2]at hr;cases hr
    obtain⟨x,h3,h4,h5⟩:=h eH w fuel cs xs h2 (by simpa [fits,DataW.weights,ht] using hf) (by rw[hl,hc];simp);exact⟨x,h3,aq h4,aq h5⟩
  ·cases hr
def I4(P:Program)(t:TypeId){α:Type}(c:α->C)(wf:α->Prop):Prop:=
 ∀{H:Type} (eH:TypeId×Value->H) (w:World) (base:Nat) (v:Value) (d:DataW H) (ps:List MemPlace),Value.okWide P w .any base t v->
  DataW.Trod eH P w 0 (λ_=>true) true t v d ps->fits P t d->∃x,wf x/\L (E0 w) (c x) v
def qx.U9{α:Type}{enc:α->List C}{wf:α->Prop}{fs:Array Field}(ht:P.underlying t=some (.struct fs))(h:qx P t enc wf):I4 P t (λx=>.agg (enc x)) wf:=by
 intro H eH w base v d ps hv hd hf;simp only[Value.okWide,ht]at hv;obtain⟨cs,rfl,_⟩:=hv;obtain⟨fuel,hd⟩:=hd;obtain⟨x,h1,h2,h3⟩:=h eH w fuel _ d ps hd hf;exact⟨x,h1,.agg _ cs (by simpa [Value.cells] using h2.1) (λi c y e1 e2=>h2.2 i c y e1 (by simpa [Value.cells] using e2)) (λu hu=>h3 u (by simpa [Value.cells] using hu))⟩
def OpenArgs(P:Program)(ts:List TypeId){α:Type}(c:α->List C)(wf:α->Prop):Prop:=
 ∀{H:Type} (eH:TypeId×Value->H) (w:World) (base:Nat) (vs:List Value) (ds:List (DataW H)) (ps:List MemPlace),(∀(j:Nat) t v,ts[j]?=some t->vs[j]?=some v->Value.okWide P w .any base t v)->
  DataW.TrodAll eH P w 0 (λ_=>true) true ts vs ds ps->(DataW.weightsEach P ts ds).all (·<=reachBytes)=true->∃x,wf x/\LL (E0 w) (c x) vs
def OpenArgs.nil:OpenArgs P [] (λ_:Unit=>[]) (λ_=>True):=by
 intro H eH w base vs ds ps _ h _
 match vs,ds,h with
 |[],[],_=>exact⟨(),trivial,LL.nil⟩
def OpenArgs.cons{ts:List TypeId}{α β:Type}{c:α->C}{wf:α->Prop}{cs:β->List C}{wf':β->Prop}(h:I4 P t c wf)(h':OpenArgs P ts cs wf'):
  OpenArgs P (t::ts) (λx:α×β=>c x.1::cs x.2) (λx=>wf x.1/\wf' x.2):=by
 intro H eH w base vs ds ps hv hd hf
 match vs,ds,hd with
 |v::vs,d::ds,⟨p,q,h1,h2,_⟩=>
  simp only[DataW.weightsEach,ue,gA]at hf;obtain⟨a,a1,a2⟩:=h eH w base v d p (hv 0 t v J J) h1 hf.1;obtain⟨b,b1,b2⟩:=h' eH w base vs ds q (λj t' v' e1 e2=>hv (j+1) t' v' (aq e1) uY) h2 hf.2;exact⟨(a,b),⟨a1,b1⟩,LL.cons a2 b2⟩
end
def KZ{P:Program}{H:Type}{eH:TypeId×Value->H}(hl:laidOutB P=true){W W':World}{sp':Nat->Bool}:∀{ts:List TypeId} {vs:List Value} {ds:List (DataW H)} {ps:List MemPlace},
  ts.all (λt=>P.readableRec t && decide (t<P.types.size))=true->DataW.TrodAll eH P W 0 (λ_=>true) true ts vs ds ps->(∀p∈ps,W.sameAt W' p)->(∀p∈ps,sp' p.block=true)->DataW.TrodAll eH P W' 0 sp' true ts vs ds ps
 |[],[],[],ps,_,h,_,_=>h
 |t::ts,v::vs,d::ds,ps,hts,⟨p,q,h1,h2,e⟩,hsame,hs=>by
  subst e;simp only[rW,gA,gH]at hts;exact⟨p,q,WideElems.Trod_stays hl hts.1.1 hts.1.2 h1 (λx hx=>hsame x bY) (λx hx=>hs x bY),KZ hl hts.2 h2 (λx hx=>hsame x bY) (λx hx=>hs x bY),rfl⟩
def Rf{w w':World}{E E':Env}(g:Grow w E [] w' E' []):RowKit.Below w.heap.size w w':=
 ⟨g.os,g.tape,g.output,g.size,λk hk=>g.frame k hk xy.none⟩
def Lz{P:Program}{H:Type}{eH:TypeId×Value->H}{w:World}{b:Nat}{sp:Nat->Bool}{hd:Bool}:∀{ts:List TypeId} {vs:List Value} {ds:List (DataW H)} {ps:List MemPlace},DataW.TrodAll eH P w b sp hd ts vs ds ps->ds.length=ts.length
 |[],[],[],_,_=>rfl
 |_::_,_::_,_::_,_,⟨_,_,_,h,_⟩=>by simp[Lz h]
def law_close{P:Program}{f:FuncId}{fn:Func}{s:ChangeSpec}{H:Type}{eH:TypeId×Value->H}{W:World}{base:Nat}{args:Array Value}{ds gs:List (DataW H)}{before:List MemPlace}{tb:TypeId}{α:Type}{c:α->List C}{wf:α->Prop}
 (hl:laidOutB P=true)(hts:fn.params.toList.all (λt=>P.readableRec t && decide (t<P.types.size))=true)(hres:fn.resultTypes= #[tb])(htb:P.underlying tb=some .bool)(hvars:s.vars=[])
 (hspec:∀ds:List (DataW H),ds.length=fn.params.toList.length->s.fn H (ds++[])={results:=[.lit (.bool true)],args:=ds})
 (hval:∀(j:Nat) t v,fn.params[j]?=some t->args[j]?=some v->Value.okWide P W .any base t v)
 (hW:DataW.Whole eH P fn.params.toList s.vars false W args.toList ds gs before)
 (hsz:(DataW.weightsEach P (fn.params.toList++s.plain.varTypes P) (ds++gs)).all (·<=reachBytes)=true)
 (hop:OpenArgs P fn.params.toList c wf)(hs:∀x,wf x->zb P f [] (c x) (.v (.bool true)) []):
  Calls P f args W λe W'=>∃v,e=.returned v/\s.post eH P fn false true false false W args v W':=by
 have hW':=hW;obtain⟨p,q,hA,hV,rfl,hfz,iw⟩:=hW;rw[hvars]at hV;obtain⟨rfl,rfl⟩:=ChangeShapes.trodVars_none hV;have hvt:s.plain.varTypes P=[]:=by simp[DataSpec.varTypes,ChangeSpec.plain,hvars]
 rw[hvt]at hsz;simp only[pY]at hsz;have fj:=hW'.lt;obtain⟨x,hx,hL⟩:=hop eH W base args.toList ds p (λj t v e1 e2=>hval j t v (aq e1) uY) hA hsz;refine(hs x hx W (E0 W) args (Za W) hL).mono ?_;rintro e W' ⟨v,E',rfl,_,hv,g⟩;have hb:=Rf g;obtain rfl:v=.bool true:=by cases hv;rfl
 have hlen:=Lz hA;have hsp:=hspec ds hlen;refine⟨_,rfl,ds,[],p++[],[],p,[],hW',?_,?_,?_,?_,λh=>by cases h⟩
 ·rw[hsp,hres];exact⟨[],[],RowKit.shut_bool htb _,rfl,rfl⟩
 ·rw[hsp];exact KZ hl hts hA (λx hx=>hb.same (fj x (aq hx))) (λx hx=>by simpa using fj x (aq hx))
 ·rw[hsp,hvars]
  rfl
 ·exact hb.frame _
end Go.Ab
namespace Go.Hy
open Go.Ab
abbrev ft:=List UInt8
abbrev I(n:Int):C:=.v (.int .i64 n)
abbrev U(n:Int):C:=.v (.int .u64 n)
abbrev Bo(b:Bool):C:=.v (.bool b)
abbrev Tx(s:ft):C:=.v (.string ⟨⟨s⟩⟩)
def encI(n:Int):List C:=[I n]
def jZ(n:Int):List C:=[U n]
def wh(b:Bool):List C:=[Bo b]
def qw(s:ft):List C:=[Tx s]
abbrev lI(l:List Int):C:=.fh 0 1 (l.map encI)
abbrev lU(l:List Int):C:=.fh 0 1 (l.map jZ)
abbrev lB(l:List Bool):C:=.fh 0 1 (l.map wh)
abbrev lT(l:List ft):C:=.fh 0 1 (l.map qw)
def i64(n:Int):Prop:= -9223372036854775808<=n/\n<=9223372036854775807
def u64(n:Int):Prop:=0<=n/\n<=18446744073709551615
instance (n:Int):Decidable (i64 n):=by unfold i64;infer_instance
instance (n:Int):Decidable (u64 n):=by unfold u64;infer_instance
structure fH where
 version:Int
 at_:Int
 gone:Bool
def xR(r:fH):List C:=[I r.version,I r.at_,Bo r.gone]
abbrev lR(l:List fH):C:=.fh 0 3 (l.map xR)
def fH.ok(r:fH):Prop:=i64 r.version/\i64 r.at_
structure fI where
 name:ft
 drain:Bool
 zi:Int
 closed:Bool
def qP(l:fI):List C:=[Tx l.name,Bo l.drain,I l.zi,Bo l.closed]
abbrev lL(l:List fI):C:=.fh 0 4 (l.map qP)
def fI.ok(l:fI):Prop:=l.name.length<=reachBytes/\i64 l.zi
structure En where
 head:Int
 next:List Int
 zi:Int
def zA(e:En):List C:=[U e.head,lI e.next,I e.zi]
abbrev lE(l:List En):C:=.fh 0 3 (l.map zA)
def En.ok(e:En):Prop:=u64 e.head/\((∀x∈e.next,i64 x)/\e.next.length<=17592186043904)/\i64 e.zi
structure Gr where
 zu:Int
 ends : List En
def zE(g:Gr):List C:=[U g.zu,lE g.ends]
abbrev lG(l:List Gr):C:=.fh 0 2 (l.map zE)
structure fV where
 name:ft
 xY:Int
 x4:Int
 zR:List Bool
def yY(c:fV):List C:=[Tx c.name,I c.xY,I c.x4,lB c.zR]
abbrev lC(l:List fV):C:=.fh 0 4 (l.map yY)
structure nJ where
 listen:ft
 host:ft
 path:ft
 zg:ft
def wY(r:nJ):List C:=[Tx r.listen,Tx r.host,Tx r.path,Tx r.zg]
abbrev lO(l:List nJ):C:=.fh 0 4 (l.map wY)
structure ia where
 ze:List ft
 zM:List nJ
 zn:List fV
def n8(c:ia):List C:=[lT c.ze,lO c.zM,lC c.zn]
structure mu where
 listen:Int
 host:ft
 path:ft
 zg:Int
def vu(r:mu):List C:=[I r.listen,Tx r.host,Tx r.path,I r.zg]
abbrev lM(l:List mu):C:=.fh 0 4 (l.map vu)
structure Sna where
 ze:List ft
 rules:List mu
 zn:List fV
def encS(s:Sna):List C:=[lT s.ze,lM s.rules,lC s.zn]
structure fp where
 snap:Sna
 zo:List Gr
 zW:Bool
def zH(v:fp):List C:=encS v.snap++[lG v.zo,Bo v.zW]
abbrev lV(l:List fp):C:=.fh 0 5 (l.map zH)
structure Wor where
 zl:Int
 current:Int
 lock:Int
 pins:List Int
 zd:List fp
 ze:List fI
 counts:List (List Int)
 zp:List fH
def zN(r:List Int):List C:=[lU r]
abbrev fU(l:List (List Int)):C:=.fh 0 1 (l.map zN)
def vC(w:Wor):List C:=[I w.zl,I w.current,I w.lock,lI w.pins,lV w.zd,lL w.ze,fU w.counts,lR w.zp]
structure fJ where
 kind:Int
 listen:ft
 host:ft
 path:ft
 d0:Int
 d1:Int
 n:Int
 config:ia
def i7(o:fJ):List C:=[I o.kind,Tx o.listen,Tx o.host,Tx o.path,I o.d0,I o.d1,I o.n]++n8 o.config
abbrev lP(l:List fJ):C:=.fh 0 10 (l.map i7)
structure oa where
 c0:Int
 c1:Int
 c2:Int
 c3:Int
 c4:Int
 c5:Int
def BW(x:oa):List C:=[U x.c0,U x.c1,U x.c2,U x.c3,U x.c4,U x.c5]
structure fA where
 kind:Int
 version:Int
 zg:Int
 end_ : Int
 slot:Int
 listen:Int
 n:Int
 counts:oa
def xk(a:fA):List C:=[I a.kind,I a.version,I a.zg,I a.end_,I a.slot,I a.listen,I a.n]++BW a.counts
abbrev lA(l:List fA):C:=.fh 0 13 (l.map xk)
structure fi where
 op:fJ
 zf:Int
 pc:Int
 zl:Int
 version:Int
 listen:Int
 zg:Int
 end_ : Int
 other:Int
 slot:Int
 word:Int
 link:Int
 i:Int
 k:Int
 sum:Int
 done:Bool
 answer:fA
 counts:oa
def mC(m:fi):List C:=i7 m.op++[I m.zf,I m.pc,I m.zl,I m.version,I m.listen,I m.zg,I m.end_,I m.other,I m.slot,U m.word,I m.link,I m.i,I m.k,I m.sum,Bo m.done]++xk m.answer++BW m.counts
structure fk where
 zf:Int
 op:Int
 access:Int
 cell:Int
 version:Int
 zW:Bool
 value:Int
 q8:Bool
 qY:Bool
 done:Bool
 answer:fA
def jO(e:fk):List C:=[I e.zf,I e.op,I e.access,I e.cell,I e.version,Bo e.zW,I e.value,Bo e.q8,Bo e.qY,Bo e.done]++xk e.answer
abbrev iK(l:List fk):C:=.fh 0 23 (l.map jO)
structure Cal where
 zf:Int
 op:Int
 from_:Int
 qY:Int
 fY:Int
 answer:fA
def jS(c:Cal):List C:=[I c.zf,I c.op,I c.from_,I c.qY,I c.fY]++xk c.answer
abbrev AQ(l:List Cal):C:=.fh 0 18 (l.map jS)
structure fR where
 first:ia
 threads:List (List fJ)
 zQ:List Int
def vJ(l:List fJ):List C:=[lP l]
abbrev Dt(l:List (List fJ)):C:=.fh 0 1 (l.map vJ)
def wi(s:fR):List C:=n8 s.first++[Dt s.threads,lI s.zQ]
abbrev fS(w:Wor)(m:fi)(v:fp)(i:Nat):List (List C):=(w.zd.map zH).set m.version.toNat ((encS v.snap++[C.sl i [] 2 0 v.zo.length false,Bo v.zW]))
abbrev fL(m:fi)(v:fp)(g:Gr)(t:Int)(i:Nat):List (List C):=(v.zo.map zE).set m.zg.toNat ([U t,C.sl i [] 3 0 g.ends.length false])
abbrev fF(m:fi)(g:Gr)(e:En)(h:Int)(i:Nat)(a:Int):List (List C):=(g.ends.map zA).set m.end_.toNat ([U h,C.sl i [] 1 0 e.next.length false,I a])
abbrev iZ(w:Wor)(i:Nat):List C:=[I w.zl,I w.current,I w.lock,lI w.pins,.sl i [] 5 0 w.zd.length false,lL w.ze,fU w.counts,lR w.zp]
abbrev oM(x:fi):Ob:=⟨1,95,44,[mC x],0⟩
abbrev oW(x:Wor):Ob:=⟨1,38,8,[vC x],0⟩
abbrev oE(x:fk):Ob:=⟨1,55,23,[jO x],0⟩
abbrev oS(x:fR):Ob:=⟨1,30,5,[wi x],0⟩
abbrev oD(x:En):Ob:=⟨1,74,3,[zA x],0⟩
abbrev oC(x:fV):Ob:=⟨1,79,4,[yY x],0⟩
abbrev hE(w:Wor)(x m:fi)(v:fp)(g:Gr)(e:En)(t h a:Int)(r:List Ob):List Ob:=⟨1,38,8,[(iZ w 2)],0⟩::oM x::⟨1,0,5,fS w m v 3,0⟩::⟨1,0,2,fL m v g t 4,0⟩::⟨1,0,3,fF m g e h 5 a,0⟩::⟨2,3,1,e.next.map encI,0⟩::r
end Go.Hy
namespace Go.Ab
abbrev tj:=zb Go.Proofs.Tryz.prog
end Go.Ab
