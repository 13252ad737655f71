import Derived.Test.YtkbnjgogjccmfaaGreatProg
import Derived.SizedLaws
import Derived.ProofKit
import Derived.Carry
import Derived.Test.YtkbnjgogjccmfaaGreatTC
import Derived.Test.YtkbnjgogjccmfaaGreatTA
set_option linter.all false
set_option maxRecDepth 100000
set_option maxHeartbeats 4000000
namespace Go.Ab
def yQ (ρ:Nat->Nat):Nat->C->C
 | 0,_=>.za
 | k+1,c=>match c with
  | .ref id hops sz i j=>.ref (ρ id) hops sz i j
  | .sl id hops sz lo len full=>.sl (ρ id) hops sz lo len full
  | .mp id=>.mp (ρ id)
  | .gl id sz rows=>.gl (ρ id) sz rows
  | .eZ t c=>.eZ t (yQ ρ k c)
  | .rc r=>.rc r
  | .agg cs=>.agg (cs.map (yQ ρ k))
  | .u1 cs=>.u1 (cs.map (yQ ρ k))
  | .fn f first caps=>.fn f (first.map (yQ ρ k)) (caps.map (yQ ρ k))
  | .v x=>.v x
  | .uv o sz rows=>.uv o sz rows
  | .jN cells=>.jN cells
  | .un=>.un
  | .za=>.za
structure Eh (E E':Env) (ρ:Nat->Nat):Prop where
 n:∀ id,id < E.n->ρ id < E'.n
 β:∀ id hops,id < E.n->E'.β (ρ id) hops=E.β id hops
 κ:∀ id hops,id < E.n->E'.κ (ρ id) hops=E.κ id hops
 G:∀ id k,id < E.n->E'.G (ρ id) k=E.G id k
 St:E'.St=E.St
def Eh.shut {E E':Env} {ρ:Nat->Nat} (h:Eh E E' ρ):E.shut.le E'.shut:=
 ⟨dW _,fun id hops hi=>absurd hi (gN _),fun id hops hi=>absurd hi (gN _),fun b o u hu=>by show E'.St b o=_;rw [h.St];exact hu,fun id _ _ hi=>absurd hi (gN _)⟩
def L.Mx {E E':Env} {ρ:Nat->Nat} (h:Eh E E' ρ):∀ (k:Nat) {c:C} {y:Value},L E c y->L E' (yQ ρ k c) y:=by
 intro k
 induction k with
 | zero=>intro c y _;exact .za y
 | succ k ih=>
  intro c y hl;cases hl with
  | v x hx=>exact .v _ hx
  | uv o sz rows b off cap us ho hc hsz hst hL=>
   exact .uv o sz rows b off cap us ho hc hsz (fun i r k c e1 e2=>by rw [h.St];exact hst i r k c e1 e2) (fun i r k c e1 e2=>(hL i r k c e1 e2).mono h.shut)
  | xt o sz ho a=>exact .xt o sz ho a
  | jN cells b off us hst hL=>exact .jN cells b off us (fun k c e1=>by rw [h.St];exact hst k c e1) (fun k c e1=>(hL k c e1).mono h.shut)
  | ref id hops sz i j hn=>
   have:=L.ref (E:=E') (ρ id) hops sz i j (h.n id hn);rw [h.β id hops hn] at this;exact dy
  | sl id hops sz lo len full cap hn hlen hf hf'=>
   have:=L.sl (E:=E') (ρ id) hops sz lo len full cap (h.n id hn) hlen hf (fun e=>by rw [h.κ id hops hn];exact hf' e);rw [h.β id hops hn] at this;exact dy
  | mp id hn=>
   have:=L.mp (E:=E') (ρ id) (h.n id hn);rw [h.β id [] hn] at this;exact dy
  | agg cs ys h1 h2 h3=>
   have:=LL.u5 (f:=yQ ρ k) (E':=E') (cs:=cs) (ys:=ys.toList) ⟨aq h1,fun i c y e1 e2=>h2 i c y e1 uY⟩ (fun c y hl=>ih hl);exact dg
  | u1 cs ys h1 h2=>
   have:=LL.u5 (f:=yQ ρ k) (E':=E') (cs:=cs) (ys:=ys.toList) ⟨aq h1,fun i c y e1 e2=>h2 i c y e1 uY⟩ (fun c y hl=>ih hl);exact .u1 _ ys tR (fun i c y e1 e2=>this.2 i c y e1 uY)
  | fn f first caps ys zs h1 h2 h3 h4=>
   have t1:=LL.u5 (f:=yQ ρ k) (E':=E') (cs:=first) (ys:=ys.toList) ⟨aq h1,fun i c y e1 e2=>h3 i c y e1 uY⟩ (fun c y hl=>ih hl);have t2:=LL.u5 (f:=yQ ρ k) (E':=E') (cs:=caps) (ys:=zs.toList) ⟨aq h2,fun i c y e1 e2=>h4 i c y e1 uY⟩ (fun c y hl=>ih hl);exact dx
  | un=>exact .un
  | za y=>exact .za y
  | gl id sz rows y hn hg hl=>exact .gl (ρ id) sz rows y (h.n id hn) (by rw [h.G id _ hn];exact hg) (hl.mono h.shut)
  | eZ t c y hl=>exact .eZ t _ y (ih hl)
def JR (ρ:Nat->Nat) (k:Nat) {c:C} (h:zy c=true):zy (yQ ρ k c)=true:=by
 cases k with
 | zero=>rfl
 | succ k=>cases c <;> first | exact h | rfl
def zG (ρ:Nat->Nat) (ob:Ob):Ob:=
 match ob with
 | ⟨kind,ty,sz,rows,fz⟩=>match kind with
  | 2=>⟨2,ty,sz,rows,fz⟩
  | 4=>⟨4,ty,sz,rows,fz⟩
  | kd=>⟨kd,ty,sz,rows.map fun r=>r.map (yQ ρ 9),fz⟩
def xp (ρ:Nat->Nat) (ob:Ob):(zG ρ ob).kind=ob.kind∧(zG ρ ob).ty=ob.ty∧(zG ρ ob).sz=ob.sz∧(zG ρ ob).rows.length=ob.rows.length∧(zG ρ ob).fz=ob.fz:=by
 obtain ⟨kind,ty,sz,rows,fz⟩:=ob;unfold zG;dsimp only;split <;> simp
def Ge {ρ:Nat->Nat} {ob:Ob} (h:ob.kind=4):zG ρ ob=ob:=by
 obtain ⟨kind,ty,sz,rows,fz⟩:=ob;cases h
 rfl
def qZ (sel:List Nat) (n id:Nat):Nat:=match sel[id]? with
 | some x=>x
 | none=>n+(id - sel.length)
def xc (sel:List Nat) (n i:Nat):Option Nat:=match posOf sel 0 i with
 | some j=>some j
 | none=>if i < n then none else some (sel.length+(i - n))
def mz (sel:List Nat) (H':zl) (ρ:Nat->Nat):Nat->zl->zl
 | _,[]=>[]
 | i,ob::K=>(match posOf sel 0 i with
  | some j=>match H'[j]? with
   | some o=>zG ρ o
   | none=>dead
  | none=>ob)::mz sel H' ρ (i+1) K
def wx (sel:List Nat) (K H':zl):zl:=mz sel H' (qZ sel K.length) 0 K++(H'.drop sel.length).map (zG (qZ sel K.length))
def Fo (sel:List Nat) (H':zl) (ρ:Nat->Nat):∀ (i:Nat) (K:zl),(mz sel H' ρ i K).length=K.length
 | _,[]=>rfl
 | i,_::K=>by simp [mz,Fo sel H' ρ (i+1) K]
def JW (sel:List Nat) (H':zl) (ρ:Nat->Nat):∀ (k:Nat) (K:zl) (i:Nat),(mz sel H' ρ k K)[i]?= (K[i]?).map fun ob=>match posOf sel 0 (k+i) with
  | some j=>match H'[j]? with
   | some o=>zG ρ o
   | none=>dead
  | none=>ob
 | _,[],i=>by simp [mz]
 | k,ob::K,0=>by simp [mz]
 | k,ob::K,i+1=>by
  rw [mz,pN,pN,JW sel H' ρ (k+1) K i,show k+1+i=k+(i+1) from aw]
def Fa:∀ {sel:List Nat} {k id:Nat},posOf sel k id=none->∀ j:Nat,sel[j]?≠some id
 | [],k,id,_,j,h=>by simp at h
 | x::xs,k,id,h,j,e=>by
  unfold posOf at h;split at h
  ·cases h
  ·rename_i hx;cases j with
   | zero=>simp at e;exact hx (by simp [e])
   | succ j=>exact Fa h j (aq e)
def Qv {sel:List Nat} {id j:Nat} (ff:ym sel=true) (h:sel[j]?= some id):posOf sel 0 id=some j:=by
 cases e:posOf sel 0 id with
 | none=>exact absurd h (Fa e j)
 | some i=>
  obtain ⟨_,h2⟩:=xZ e;rw [pY] at h2;rw [ka ff i j id h2 h]
section
variable {w w':World} {E E0:Env} {K H':zl} {sel:List Nat}
structure Fr (w:World) (E:Env) (K:zl) (sel:List Nat) (w':World) (E0:Env) (H':zl):Prop where
 hh:qu w E K
 z7:sel.all (fun id=>Nat.blt id K.length)=true
 ff:ym sel=true
 eX:qP K=true
 h0:qu w' E0 H'
 g:Grow w (E.u5 sel) (xA sel K) w' E0 H'
 hf:qP H'=true
def fM (E:Env) (sel:List Nat) (n m:Nat) (E0:Env):Env where
 n:=n+(m - sel.length)
 β i hops:=match xc sel n i with
  | some j=>E0.β j hops
  | none=>E.β i hops
 κ i hops:=match xc sel n i with
  | some j=>E0.κ j hops
  | none=>E.κ i hops
 St:=E0.St
 G i k:=match xc sel n i with
  | some j=>E0.G j k
  | none=>E.G i k
namespace Fr
variable (f:Fr w E K sel w' E0 H')
include f
theorem le:sel.length<=H'.length:=by
 have:=f.g.le.n;rw [f.h0.n] at this;exact dy
theorem lt {i id:Nat} (h:sel[i]?= some id):id < K.length:=by
 have:=dV.1 f.z7 id (dO h);simpa [Nat.blt_eq] using this
theorem M7 {j:Nat} (hj:j < H'.length):xc sel K.length (qZ sel K.length j)=some j:=by
 unfold qZ xc;cases h:sel[j]? with
 | some x=>simp only;rw [Qv f.ff h]
 | none=>
  simp only;have h1:sel.length<=j:=pK.1 h
  have h2:posOf sel 0 (K.length+(j - sel.length))=none:=by
   cases e:posOf sel 0 (K.length+(j - sel.length)) with
   | none=>rfl
   | some i=>
    obtain ⟨_,h2⟩:=xZ e;rw [pY] at h2;have:=f.lt h2;omega
  rw [h2];simp only;rw [dN aw]
  congr 1
  omega
theorem Ua {j:Nat} (hj:j < H'.length):qZ sel K.length j < K.length+(H'.length - sel.length):=by
 have hle:=f.le;unfold qZ;split
 ·rename_i x h;have:=f.lt h;omega
 ·rename_i h;have h1:sel.length<=j:=pK.1 h;omega
theorem kL {i j:Nat} (h:xc sel K.length i=some j):qZ sel K.length j=i:=by
 unfold xc at h;split at h
 ·rename_i j' e;cases h
  obtain ⟨_,h2⟩:=xZ e;rw [pY] at h2;unfold qZ;rw [h2]
 ·split at h
  ·cases h
  ·cases h
   unfold qZ;rw [pw aw];simp only;omega
theorem Fg {i:Nat} (h:xc sel K.length i=none):i < K.length∧∀ j:Nat,sel[j]?≠some i:=by
 unfold xc at h;split at h
 ·cases h
 ·rename_i e;split at h
  ·rename_i h1;exact ⟨h1,Fa e⟩
  ·cases h
theorem len:(wx sel K H').length=K.length+(H'.length - sel.length):=by
 unfold wx;rw [gR,Fo,dR,List.length_drop]
theorem get {i:Nat} {ob:Ob} (h:(wx sel K H')[i]?= some ob):(xc sel K.length i=none∧K[i]?= some ob)∨∃ j o,xc sel K.length i=some j∧H'[j]?= some o∧ob=zG (qZ sel K.length) o:=by
 have hle:=f.le;unfold wx at h;rw [List.getElem?_append,Fo] at h;split at h
 ·rename_i hi;rw [JW,gp] at h;rw [dM hi] at h;simp only [dX,gu] at h;unfold xc;cases e:posOf sel 0 i with
  | none=>rw [e] at h;left;exact ⟨by simp [hi],by rw [dM hi,<- h]⟩
  | some j=>
   rw [e] at h
   right
   obtain ⟨_,h2⟩:=xZ e;rw [pY] at h2;have hj:j < H'.length:=gU (dL.1 h2).1 hle;simp only [dM hj] at h;exact ⟨j,H'[j],rfl,dM hj,h.symm⟩
 ·rename_i hi
  right
  have e:posOf sel 0 i=none:=by
   cases e:posOf sel 0 i with
   | none=>rfl
   | some j=>
    obtain ⟨_,h2⟩:=xZ e;rw [pY] at h2;exact absurd (f.lt h2) hi
  rw [dP,pA] at h;unfold xc;rw [e];simp only;rw [dN hi];cases hx:H'[sel.length+(i - K.length)]? with
  | none=>rw [hx] at h;cases h
  | some o=>rw [hx] at h;cases h;exact ⟨_,o,rfl,hx,rfl⟩
theorem map:Eh E0 (fM E sel K.length H'.length E0) (qZ sel K.length) where
 n id hi:=f.Ua bW
 β id hops hi:=bX
 κ id hops hi:=bX
 G id k hi:=bX
 St:=rfl
theorem ED {i j:Nat} (h:xc sel K.length i=some j) (hi:i < E.n):j < sel.length∧(sel[j]?).getD 0=i:=by
 rw [f.hh.n] at hi;unfold xc at h;split at h
 ·rename_i j' e;cases h
  obtain ⟨_,h2⟩:=xZ e;rw [pY] at h2;exact ⟨(dL.1 h2).1,by rw [h2];rfl⟩
 ·rw [dQ hi] at h;cases h
theorem EC:E.le (fM E sel K.length H'.length E0) where
 n:=by rw [f.hh.n];exact Nat.le_add_right _ _
 β id hops hi:=by
  unfold fM;dsimp only;split
  ·rename_i j e;obtain ⟨h1,h2⟩:=f.ED e hi;rw [f.g.le.β j hops h1];simp [Env.u5,h2]
  ·rfl
 κ id hops hi:=by
  unfold fM;dsimp only;split
  ·rename_i j e;obtain ⟨h1,h2⟩:=f.ED e hi;rw [f.g.le.κ j hops h1];simp [Env.u5,h2]
  ·rfl
 St b o u hu:=f.g.le.St b o u hu
 G id k u hi hu:=by
  unfold fM;dsimp only;split
  ·rename_i j e;obtain ⟨h1,h2⟩:=f.ED e hi;exact f.g.le.G j k u h1 (by simp only [Env.u5,h2];exact hu)
  ·exact hu
theorem β_un {i:Nat} (h:xc sel K.length i=none) (hops:List eK):(fM E sel K.length H'.length E0).β i hops=E.β i hops:=by simp only [fM,h]
theorem κ_un {i:Nat} (h:xc sel K.length i=none) (hops:List eK):(fM E sel K.length H'.length E0).κ i hops=E.κ i hops:=by simp only [fM,h]
theorem Ek {i:Nat} (h:xc sel K.length i=none) (k:Nat):(fM E sel K.length H'.length E0).G i k=E.G i k:=by simp only [fM,h]
theorem β_in {i j:Nat} (h:xc sel K.length i=some j) (hops:List eK):(fM E sel K.length H'.length E0).β i hops=E0.β j hops:=by simp only [fM,h]
theorem κ_in {i j:Nat} (h:xc sel K.length i=some j) (hops:List eK):(fM E sel K.length H'.length E0).κ i hops=E0.κ j hops:=by simp only [fM,h]
theorem Ej {i j:Nat} (h:xc sel K.length i=some j) (k:Nat):(fM E sel K.length H'.length E0).G i k=E0.G j k:=by simp only [fM,h]
theorem Gj {b:Nat} (h:xg (E.u5 sel) (xA sel K) b):xg E K b:=by
 rcases h with hb | ⟨i,hb | hb⟩
 ·exact .inl (hb.u5 f.z7 f.eX)
 ·obtain ⟨id,_,h3⟩:=hb.u5 f.z7;exact .inr ⟨id,.inl h3⟩
 ·obtain ⟨id,_,h3⟩:=hb.u5 f.z7;exact .inr ⟨id,.inr h3⟩
theorem Fp {id b:Nat} (h:jz K id b):∃ o,w.heap[b]?= some o∧B5 o=true:=by
 obtain ⟨ob,o,t,h1,h2,h3,rfl⟩:=h;obtain ⟨h4,_⟩:=f.hh.uy.fy id ob o t h1 h2 h3;exact ⟨o,h4⟩
theorem Ks {id b:Nat} (h:qE E K id b):∃ cur e,w.heap[b]?= some (.cells cur e (0,0)):=by
 have h':=h;obtain ⟨ob,cap,h1,_⟩:=h';obtain ⟨cur,cap,_,h2,_⟩:=f.hh.uy.u9 id b ob h h1;exact ⟨cur,_,h2⟩
theorem AV {id:Nat} {hops:List eK} {x:Nat × List (List C)} (hid:xc sel K.length id=none) (hx:z6 K id hops=some x):E.β id hops < w.heap.size∧¬xg (E.u5 sel) (xA sel K) (E.β id hops):=by
 have hn:=(f.Fg hid).2;obtain ⟨cur,e,hc⟩:=f.hh.base.Ci ⟨id,hops,x,hx,rfl⟩;refine ⟨(gf.1 hc).1,?_⟩;rintro (⟨i,hops',⟨sz,rows⟩,hx',he⟩ | ⟨i,hb | hb⟩)
 ·obtain ⟨id2,ob,rows0,h3,h4,h5,_⟩:=kO f.z7 f.eX hx';simp only [Env.u5,h3,gY] at he;obtain ⟨rfl,rfl⟩:=f.hh.base.inj id2 hops' id hops _ _ h5 hx he;exact hn i h3
 ·obtain ⟨id2,_,h3⟩:=hb.u5 f.z7;exact f.hh.uy.sep id2 _ h3 ⟨id,hops,x,hx,rfl⟩
 ·obtain ⟨id2,_,h3⟩:=hb.u5 f.z7;obtain ⟨o,h4,h5⟩:=f.Fp h3;rw [hc] at h4;cases h4
  cases h5
theorem Cp {id b:Nat} (hid:xc sel K.length id=none) (hg:qE E K id b):b < w.heap.size∧¬xg (E.u5 sel) (xA sel K) b:=by
 have hn:=(f.Fg hid).2;obtain ⟨cur,e,hc⟩:=f.Ks hg;refine ⟨(gf.1 hc).1,?_⟩;rintro (hb | ⟨i,hb | hb⟩)
 ·exact f.hh.uy.sep id b hg (hb.u5 f.z7 f.eX)
 ·obtain ⟨id2,e2,h3⟩:=hb.u5 f.z7;obtain rfl:=f.hh.uy.inj id2 id b h3 hg;exact hn i e2
 ·obtain ⟨id2,_,h3⟩:=hb.u5 f.z7;obtain ⟨o,h4,h5⟩:=f.Fp h3;rw [hc] at h4;cases h4
  cases h5
theorem GJ {id b:Nat} (hid:xc sel K.length id=none) (hg:jz K id b):b < w.heap.size∧¬xg (E.u5 sel) (xA sel K) b:=by
 have hn:=(f.Fg hid).2;obtain ⟨o,hc,hf⟩:=f.Fp hg;refine ⟨(gf.1 hc).1,?_⟩;rintro (hb | ⟨i,hb | hb⟩)
 ·obtain ⟨cur,e,h4⟩:=f.hh.base.Ci (hb.u5 f.z7 f.eX);rw [hc] at h4;cases h4
  cases hf
 ·obtain ⟨id2,e2,h3⟩:=hb.u5 f.z7;obtain ⟨cur,e,h4⟩:=f.Ks h3;rw [hc] at h4;cases h4
  cases hf
 ·obtain ⟨id2,e2,h3⟩:=hb.u5 f.z7;obtain rfl:=f.hh.uy.wF id2 id b h3 hg;exact hn i e2
theorem DR {b:Nat} (h:b < w.heap.size∧¬xg (E.u5 sel) (xA sel K) b):w'.heap[b]?= w.heap[b]?:=f.g.frame b h.1 h.2
theorem oH {b:Nat} (h:b < w.heap.size∧¬xg (E.u5 sel) (xA sel K) b) (ho:xg E0 H' b):False:=by
 rcases f.g.own b ho with h1 | h1
 ·have:=h.1;omega
 ·exact h.2 h1
theorem Mr {b o:Nat} {u:Value} (h:b < w.heap.size∧¬xg (E.u5 sel) (xA sel K) b) (hu:E0.St b o=some u):E.St b o=some u:=by
 rcases f.g.jK b o u hu with h1 | h1 | h1
 ·exact h1
 ·have:=h.1;omega
 ·exact absurd h1 h.2
theorem BM {i:Nat} {hops:List eK} {sz:Nat} {rows:List (List C)} (h:z6 (wx sel K H') i hops=some (sz,rows)):
  (xc sel K.length i=none∧z6 K i hops=some (sz,rows))∨
  ∃ j ob rows0,xc sel K.length i=some j∧H'[j]?= some ob∧z6 H' j hops=some (sz,rows0)∧((ob.kind=2∧rows=rows0)∨(ob.kind=1∧hops=[]∧rows=rows0.map (fun r=>r.map (yQ (qZ sel K.length) 9))∧∀ r ∈ rows0,∀ c ∈ r,zy c=true)):=by
 obtain ⟨ob',ho',hk',hg'⟩:=jc h;rcases f.get ho' with ⟨h1,h2⟩ | ⟨j,ob,h1,h2,rfl⟩
 ·left
  refine ⟨h1,?_⟩;unfold z6;rw [h2];simp only;rw [dQ hk'];exact hg'
 ·right
  obtain ⟨kind,ty,sz0,rows0,fz⟩:=ob;rw [(xp _ _).1] at hk';rcases hk' with hk | hk
  ·have hk:kind=1:=hk;subst hk
   have hno:∀ r ∈ rows0,∀ c ∈ r,zy c=true:=by
    have:=dV.1 f.hf _ (dO h2);dsimp only at this;simpa [dV] using this
   have hg2:vA sz0 (rows0.map fun r=>r.map (yQ (qZ sel K.length) 9)) hops=some (sz,rows):=hg'
   obtain ⟨rfl,e⟩:=kQ (fun i k c hc=>by
    unfold cellAt at hc;rw [dP] at hc;cases hx:rows0[i]? with
    | none=>rw [hx] at hc;cases hc
    | some r=>
     rw [hx] at hc;simp only [dX,gz,dP] at hc;cases hy:r[k]? with
     | none=>rw [hy] at hc;cases hc
     | some c0=>
      rw [hy] at hc;cases hc
      exact JR _ 9 (hno r (dO hx) c0 (dO hy))) hg2
   cases e
   exact ⟨j,_,rows0,h1,h2,by unfold z6;rw [h2];simp [qQ],.inr ⟨rfl,rfl,rfl,hno⟩⟩
  ·have hk:kind=2:=hk;subst hk;exact ⟨j,_,rows,h1,h2,bG,.inl ⟨rfl,rfl⟩⟩
theorem Wa:qd w' (fM E sel K.length H'.length E0) (wx sel K H') where
 n:=by rw [f.len];rfl
 u9 i ob' hops sz rows hob' hx:=by
  rcases f.BM hx with ⟨h1,h2⟩ | ⟨j,ob,rows0,h1,h2,h3,h4⟩
  ·rcases f.get hob' with ⟨_,h3⟩ | ⟨j,_,h3,_⟩
   rotate_left
   ·rw [h1] at h3;cases h3
   have hb:=f.hh.base.u9 i ob' hops sz rows h3 h2;obtain ⟨cur,e,hg,hcs,hcell⟩:=hb.u9;have hu:=f.AV h1 h2;refine ⟨by rw [f.κ_un h1];exact hb.len,hb.row,cur,e,by rw [f.β_un h1,f.DR hu];exact hg,by rw [f.κ_un h1];exact hcs,?_⟩;intro i' k c hc;obtain ⟨u,hu,ho⟩:=hcell i' k c hc;refine ⟨u,hu,?_⟩;unfold qT at ho ⊢;split at ho
   ·rw [f.β_un h1,f.κ_un h1];exact ho
   ·exact ⟨ho.1.mono (f.EC.at _),ho.2⟩
  ·rcases f.get hob' with ⟨h5,_⟩ | ⟨j2,ob2,h5,h6,rfl⟩
   ·rw [h1] at h5;cases h5
   rw [h1] at h5;cases h5
   rw [h2] at h6;cases h6
   have hb:=f.h0.base.u9 j ob hops sz rows0 h2 h3;obtain ⟨cur,e,hg,hcs,hcell⟩:=hb.u9;rw [(xp _ ob).1];rcases h4 with ⟨hk,rfl⟩ | ⟨hk,rfl,rfl,hno⟩
   ·refine ⟨by rw [f.κ_in h1];exact hb.len,hb.row,cur,e,by rw [f.β_in h1];exact hg,by rw [f.κ_in h1];exact hcs,?_⟩;intro i' k c hc;obtain ⟨u,hu,ho⟩:=hcell i' k c hc;refine ⟨u,hu,?_⟩;unfold qT at ho ⊢;split at ho
    ·rw [f.β_in h1,f.κ_in h1];exact ho
    ·refine ⟨?_,ho.2⟩;have h5:=ho.1;simp only [Env.at,hk,if_true] at h5 ⊢;exact h5.mono f.map.shut
   ·refine ⟨by rw [f.κ_in h1];simpa using hb.len,?_,cur,e,by rw [f.β_in h1];exact hg,by rw [f.κ_in h1];exact hcs,?_⟩
    ·intro r hr;obtain ⟨r0,h5,rfl⟩:=gG.1 hr;simpa using hb.row r0 h5
    ·intro i' k c hc;unfold cellAt at hc;rw [dP] at hc;cases hx1:rows0[i']? with
     | none=>rw [hx1] at hc;cases hc
     | some r=>
      rw [hx1] at hc;simp only [dX,gz,dP] at hc;cases hy:r[k]? with
      | none=>rw [hy] at hc;cases hc
      | some c0=>
       rw [hy] at hc;cases hc
       obtain ⟨u,hu,ho⟩:=hcell i' k c0 (by unfold cellAt;rw [hx1];exact hy);have hn0:=hno r (dO hx1) c0 (dO hy);rw [qT.loose hn0] at ho;refine ⟨u,hu,(qT.loose (JR _ 9 hn0)).2 ⟨?_,ho.2⟩⟩;have h5:=ho.1;have hk2:¬ob.kind=2:=by rw [hk];decide
       simp only [Env.at,dN hk2] at h5 ⊢;exact h5.Mx f.map 9
 inj i hops i' hops' x y hx hy he:=by
  rcases f.BM (sz:=x.1) (rows:=x.2) hx with ⟨h1,h2⟩ | ⟨j,ob,rows0,h1,_,h3,_⟩ <;> rcases f.BM (sz:=y.1) (rows:=y.2) hy with ⟨k1,k2⟩ | ⟨j',ob',rows0',k1,_,k3,_⟩
  ·rw [f.β_un h1,f.β_un k1] at he;exact f.hh.base.inj i hops i' hops' _ _ h2 k2 he
  ·rw [f.β_un h1,f.β_in k1] at he;exact (f.oH (f.AV h1 h2) (.inl ⟨j',hops',_,k3,he.symm⟩)).elim
  ·rw [f.β_in h1,f.β_un k1] at he;exact (f.oH (f.AV k1 k2) (.inl ⟨j,hops,_,h3,he⟩)).elim
  ·rw [f.β_in h1,f.β_in k1] at he;obtain ⟨rfl,rfl⟩:=f.h0.base.inj j hops j' hops' _ _ h3 k3 he;exact ⟨(f.kL h1).symm.trans (f.kL k1),rfl⟩
 qs:=f.h0.base.qs
 sep i hops x o u hx hu:=by
  rcases f.BM (sz:=x.1) (rows:=x.2) hx with ⟨h1,h2⟩ | ⟨j,ob,rows0,h1,h2,h3,_⟩
  ·rw [f.β_un h1] at hu;obtain ⟨e1,ob,e2,e3⟩:=f.hh.base.sep i hops _ o u h2 (f.Mr (f.AV h1 h2) hu);refine ⟨e1,?_⟩;obtain ⟨ob',ho',_⟩:=jc hx;refine ⟨ob',ho',?_⟩;rcases f.get ho' with ⟨_,k2⟩ | ⟨j,_,k1,_⟩
   ·rw [e2] at k2;cases k2;exact e3
   ·rw [h1] at k1;cases k1
  ·rw [f.β_in h1] at hu;obtain ⟨e1,ob2,e2,e3⟩:=f.h0.base.sep j hops _ o u h3 hu;refine ⟨e1,?_⟩;obtain ⟨ob',ho',_⟩:=jc hx;refine ⟨ob',ho',?_⟩;rcases f.get ho' with ⟨k1,_⟩ | ⟨j2,ob3,k1,k2,rfl⟩
   ·rw [h1] at k1;cases k1
   ·rw [h1] at k1;cases k1
    rw [e2] at k2;cases k2
    obtain ⟨l1,l2,l3,l4,l5⟩:=xp (qZ sel K.length) ob2;rw [l3,l5];exact e3
 ty i ob' hob' hk:=by
  rcases f.get hob' with ⟨h1,h2⟩ | ⟨j,ob,h1,h2,rfl⟩
  ·obtain ⟨cur,hc⟩:=f.hh.base.ty i ob' h2 hk;refine ⟨cur,?_⟩;have hx:∃ x,z6 K i []=some x:=⟨(ob'.sz,ob'.rows),by unfold z6;rw [h2];simp [hk,qQ]⟩;obtain ⟨x,hx⟩:=hx;rw [f.β_un h1,f.DR (f.AV h1 hx)];exact hc
  ·obtain ⟨l1,l2,l3,l4,l5⟩:=xp (qZ sel K.length) ob;obtain ⟨cur,hc⟩:=f.h0.base.ty j ob h2 (by rw [<- l1];exact hk);exact ⟨cur,by rw [f.β_in h1,l2];exact hc⟩
 fz i ob' hob':=by
  rcases f.get hob' with ⟨h1,h2⟩ | ⟨j,ob,h1,h2,rfl⟩
  ·exact f.hh.base.fz i ob' h2
  ·obtain ⟨l1,l2,l3,l4,l5⟩:=xp (qZ sel K.length) ob;rw [l4,l5];exact f.h0.base.fz j ob h2
theorem AL {i b:Nat} (h:qE (fM E sel K.length H'.length E0) (wx sel K H') i b):(xc sel K.length i=none∧qE E K i b)∨∃ j,xc sel K.length i=some j∧qE E0 H' j b:=by
 obtain ⟨ob',cap,h1,h2,h3,h4⟩:=h;rcases f.get h1 with ⟨e1,e2⟩ | ⟨j,ob,e1,e2,rfl⟩
 ·left
  rw [f.Ek e1] at h3;exact ⟨e1,ob',cap,e2,h2,h3,h4⟩
 ·right
  obtain ⟨l1,l2,l3,l4,l5⟩:=xp (qZ sel K.length) ob;rw [f.Ej e1,l4] at h3;rw [l4] at h4;exact ⟨j,e1,ob,cap,e2,bH,h3,h4⟩
theorem FX {i b:Nat} (h:jz (wx sel K H') i b):(xc sel K.length i=none∧jz K i b)∨∃ j,xc sel K.length i=some j∧jz H' j b:=by
 obtain ⟨ob',o,t,h1,h2,h3,h4⟩:=h;rcases f.get h1 with ⟨e1,e2⟩ | ⟨j,ob,e1,e2,rfl⟩
 ·exact .inl ⟨e1,ob',o,t,e2,h2,h3,h4⟩
 ·have hk:ob.kind=4:=by rw [<- (xp (qZ sel K.length) ob).1];exact h2
  rw [Ge hk] at h3 h4;exact .inr ⟨j,e1,ob,o,t,e2,hk,h3,h4⟩
theorem JU {b:Nat} (h:jb (fM E sel K.length H'.length E0) (wx sel K H') b):(∃ id hops x,xc sel K.length id=none∧z6 K id hops=some x∧E.β id hops=b)∨jb E0 H' b:=by
 obtain ⟨i,hops,⟨sz,rows⟩,hx,rfl⟩:=h;rcases f.BM hx with ⟨h1,h2⟩ | ⟨j,ob,rows0,h1,_,h3,_⟩
 ·exact .inl ⟨i,hops,_,h1,h2,(f.β_un h1 hops).symm⟩
 ·exact .inr ⟨j,hops,_,h3,(f.β_in h1 hops).symm⟩
theorem uy:iZ w' (fM E sel K.length H'.length E0) (wx sel K H') where
 val i ob' h1 h2:=by
  rcases f.get h1 with ⟨e1,e2⟩ | ⟨j,ob,e1,e2,rfl⟩
  ·rw [f.Ek e1];exact f.hh.uy.val i ob' e2 h2
  ·obtain ⟨l1,l2,l3,l4,l5⟩:=xp (qZ sel K.length) ob;rw [f.Ej e1,l4];exact f.h0.uy.val j ob e2 bH
 u9 i b ob' h1 h2:=by
  rcases f.AL h1 with ⟨k1,k2⟩ | ⟨j,k1,k2⟩ <;> rcases f.get h2 with ⟨e1,e2⟩ | ⟨j',ob,e1,e2,rfl⟩
  ·rw [f.Ek k1,f.DR (f.Cp k1 k2)];exact f.hh.uy.u9 i b ob' k2 e2
  ·rw [k1] at e1;cases e1
  ·rw [k1] at e1;cases e1
  ·rw [k1] at e1;cases e1
   obtain ⟨l1,l2,l3,l4,l5⟩:=xp (qZ sel K.length) ob;rw [f.Ej k1,l2,l3,l4];exact f.h0.uy.u9 j b ob k2 e2
 sep i b h1 h2:=by
  rcases f.AL h1 with ⟨k1,k2⟩ | ⟨j,k1,k2⟩ <;> rcases f.JU h2 with ⟨id,hops,x,e1,e2,rfl⟩ | e2
  ·exact f.hh.uy.sep i _ k2 ⟨id,hops,x,e2,rfl⟩
  ·exact f.oH (f.Cp k1 k2) (.inl e2)
  ·exact f.oH (f.AV e1 e2) (.inr ⟨j,.inl k2⟩)
  ·exact f.h0.uy.sep j b k2 e2
 inj i i' b h1 h2:=by
  rcases f.AL h1 with ⟨k1,k2⟩ | ⟨j,k1,k2⟩ <;> rcases f.AL h2 with ⟨e1,e2⟩ | ⟨j',e1,e2⟩
  ·exact f.hh.uy.inj i i' b k2 e2
  ·exact (f.oH (f.Cp k1 k2) (.inr ⟨j',.inl e2⟩)).elim
  ·exact (f.oH (f.Cp e1 e2) (.inr ⟨j,.inl k2⟩)).elim
  ·obtain rfl:=f.h0.uy.inj j j' b k2 e2;exact (f.kL k1).symm.trans (f.kL e1)
 st i b ob' o u h1 h2 h3:=by
  rcases f.AL h1 with ⟨k1,k2⟩ | ⟨j,k1,k2⟩ <;> rcases f.get h2 with ⟨e1,e2⟩ | ⟨j',ob,e1,e2,rfl⟩
  ·exact f.hh.uy.st i b ob' o u k2 e2 (f.Mr (f.Cp k1 k2) h3)
  ·rw [k1] at e1;cases e1
  ·rw [k1] at e1;cases e1
  ·rw [k1] at e1;cases e1
   obtain ⟨l1,l2,l3,l4,l5⟩:=xp (qZ sel K.length) ob;rw [l3,l4];exact f.h0.uy.st j b ob o u k2 e2 h3
 top i ob' k u h1 h2 h3:=by
  rcases f.get h1 with ⟨e1,e2⟩ | ⟨j,ob,e1,e2,rfl⟩
  ·rw [f.Ek e1] at h3;exact f.hh.uy.top i ob' k u e2 h2 h3
  ·obtain ⟨l1,l2,l3,l4,l5⟩:=xp (qZ sel K.length) ob;rw [f.Ej e1] at h3;rw [l4];exact f.h0.uy.top j ob k u e2 bH h3
 fy i ob' o t h1 h2 h3:=by
  rcases f.get h1 with ⟨e1,e2⟩ | ⟨j,ob,e1,e2,rfl⟩
  ·obtain ⟨⟨p1,p2⟩,p3⟩:=f.hh.uy.fy i ob' o t e2 h2 h3;rw [f.DR (f.GJ e1 ⟨ob',o,t,e2,h2,h3,rfl⟩)];exact ⟨⟨p1,p2⟩,p3.mono f.EC⟩
  ·have hk4:ob.kind=4:=by rw [<- (xp (qZ sel K.length) ob).1];exact h2
   rw [Ge hk4] at h3;have:=dV.1 f.hf ob (dO e2);rw [hk4,h3.2,h3.1] at this;obtain ⟨p1,p2⟩:=f.h0.uy.fy j ob o t e2 hk4 h3;have ht:t.all AQ=true:=aq this
   rw [Ge hk4];exact ⟨p1,p2.map fun ys hl=>hl.closed ht ⟨gA _,fun _ _ h=>absurd h (gN _),fun _ _ h=>absurd h (gN _),fun _ _ _ h=>h,fun _ _ _ h=>absurd h (gN _)⟩⟩
 wF i i' b h1 h2:=by
  rcases f.FX h1 with ⟨k1,k2⟩ | ⟨j,k1,k2⟩ <;> rcases f.FX h2 with ⟨e1,e2⟩ | ⟨j',e1,e2⟩
  ·exact f.hh.uy.wF i i' b k2 e2
  ·exact (f.oH (f.GJ k1 k2) (.inr ⟨j',.inr e2⟩)).elim
  ·exact (f.oH (f.GJ e1 e2) (.inr ⟨j,.inr k2⟩)).elim
  ·obtain rfl:=f.h0.uy.wF j j' b k2 e2;exact (f.kL k1).symm.trans (f.kL e1)
theorem grow:Grow w E K w' (fM E sel K.length H'.length E0) (wx sel K H') where
 le:=f.EC
 os:=f.g.os
 tape:=f.g.tape
 output:=f.g.output
 size:=f.g.size
 frame k h1 h2:=f.g.frame k h1 fun h=>h2 (f.Gj h)
 jK b o u hu:=by
  rcases f.g.jK b o u hu with h1 | h1 | h1
  ·exact .inl h1
  ·exact .inr (.inl h1)
  ·exact .inr (.inr (f.Gj h1))
 own b hb:=by
  have fin:xg E0 H' b->w.heap.size<=b∨xg E K b:=fun h=>(f.g.own b h).imp_right f.Gj
  rcases hb with hb | ⟨i,hb | hb⟩
  ·rcases f.JU hb with ⟨id,hops,x,_,e2,e3⟩ | h
   ·exact .inr (.inl ⟨id,hops,x,e2,e3⟩)
   ·exact fin (.inl h)
  ·rcases f.AL hb with ⟨_,k2⟩ | ⟨j,_,k2⟩
   ·exact .inr (.inr ⟨i,.inl k2⟩)
   ·exact fin (.inr ⟨j,.inl k2⟩)
  ·rcases f.FX hb with ⟨_,k2⟩ | ⟨j,_,k2⟩
   ·exact .inr (.inr ⟨i,.inr k2⟩)
   ·exact fin (.inr ⟨j,.inr k2⟩)
end Fr
variable {P:Program} {f:FuncId}
def qC.part (sel:List Nat) {K H0:zl} {args args0:List C} {R:C->zl->Prop} (h:qC P f H0 args0 R) (hR:∀ r H',R r H'->qP H'=true)
  (hH:xA sel K=H0) (ha:args.map (x9 sel 9)=args0) (z7:sel.all (fun id=>Nat.blt id K.length)=true) (ff:ym sel=true) (eX:qP K=true):
  qC P f K args fun r K'=>∃ r0 H',R r0 H'∧r=yQ (qZ sel K.length) 9 r0∧K'=wx sel K H':=fun w E vs hh hl=>by
 subst hH ha;refine (h w (E.u5 sel) vs (hh.u5 sel z7 ff eX) (hl.u5 fun c y hl=>hl.u5 sel 9)).mono fun e w' ⟨r,H',v,E0,h1,h2,h3,h4,g⟩=>?_
 have fr:Fr w E K sel w' E0 H':=⟨hh,z7,ff,eX,h3,g,hR r H' h1⟩;exact ⟨_,_,v,_,⟨r,H',h1,rfl,rfl⟩,h2,⟨fr.Wa,fr.uy⟩,h4.Mx fr.map 9,fr.grow⟩
def zb.part (sel:List Nat) {K H0 H':zl} {args args0:List C} {r:C} (h:zb P f H0 args0 r H') (hR:qP H'=true)
  (hH:xA sel K=H0) (ha:args.map (x9 sel 9)=args0) (z7:sel.all (fun id=>Nat.blt id K.length)=true) (ff:ym sel=true) (eX:qP K=true):
  zb P f K args (yQ (qZ sel K.length) 9 r) (wx sel K H'):=fun w E vs hh hl=>by
 refine ((h.iS (R:=fun x X=>x=r∧X=H') ⟨rfl,rfl⟩).part sel (fun x X e=>e.2 ▸ hR) hH ha z7 ff eX w E vs hh hl).mono fun e w' ⟨r1,K',v,E',⟨r0,H1,⟨e1,e2⟩,e3,e4⟩,h2⟩=>?_
 subst e1 e2 e3 e4;exact ⟨v,E',h2⟩
def zq (sel:List Nat) {K H0 H':zl} {args args0:List C} {r:C} (h:zb P f H0 args0 r H') (hR:qP H'=true)
  (hH:xA sel K=H0) (ha:args.map (x9 sel 9)=args0) (z7:sel.all (fun id=>Nat.blt id K.length)=true) (ff:ym sel=true) (eX:qP K=true) {k:C->zl->Prop}
  (hk:oL (wx sel K H') fun X=>okB (yQ (qZ sel K.length) 9 r) fun c=>k c X):∃ r' H2,zb P f K args r' H2∧okB r' fun c=>k c H2:=
 ⟨_,_,h.part sel hR hH ha z7 ff eX,vX (k:=fun X=>okB (yQ (qZ sel K.length) 9 r) fun c=>k c X) hk⟩
def ah {f:FuncId}{H:zl}{args:List C}{r:C}{k:C->zl->Prop}{zQ:Prop}(h:zb P f [] args r [])(z0:zQ)(ha:args.all (qY 0 9)=true:=by exact rfl)(ze:zQ->okB r fun c=>k c H:=by intro zh;(conv=>whnf);(try apply zz;conv=>whnf);exact zh):∃ r H2,zb P f H args r H2∧okB r fun c=>k c H2:=⟨_,_,h.frame ha H,ze z0⟩
def af {K H0 H':zl}{args args0:List C}{r:C}{k:C->zl->Prop}{zQ:Prop}(sel:List Nat)(h:zb P f H0 args0 r H')(z0:zQ)(hR:qP H'=true:=by exact rfl)(hH:xA sel K=H0:=by exact rfl)(ha:args.map (x9 sel 9)=args0:=by exact rfl)(z7:sel.all (fun id=>Nat.blt id K.length)=true:=by exact rfl)(ff:ym sel=true:=by exact rfl)(eX:qP K=true:=by exact rfl)(ze:zQ->oL (wx sel K H') fun X=>okB (yQ (qZ sel K.length) 9 r) fun c=>k c X:=by intro zh;(conv=>whnf);(try apply zz;conv=>whnf);exact zh):∃ r' H2,zb P f K args r' H2∧okB r' fun c=>k c H2:=zq sel h hR hH ha z7 ff eX (ze z0)
def SQ {sel:List Nat} {K K':zl} (h:∀ id ∈ sel,K'[id]?= K[id]?):xA sel K'=xA sel K:=by
 unfold xA;refine rE fun id hid=>?_
 rw [h id hid]
def Jy {sel:List Nat} {H':zl} {ρ:Nat->Nat}:∀ (K:zl) (k:Nat),(∀ (j id:Nat) (o:Ob),sel[j]?= some id->H'[j]?= some o->id < k+K.length->k<=id->K[id - k]?= some (zG ρ o))->(sel.length<=H'.length)->mz sel H' ρ k K=K
 | [],k,h,hl=>rfl
 | ob::K,k,h,hl=>by
  rw [mz]
  congr 1
  ·split
   ·rename_i j hj;have hs:sel[j]?= some k:=by simpa using (xZ hj).2
    split
    ·rename_i o ho;have:=h j k o hs ho aj (dW _);simpa using this.symm
    ·rename_i ho;have h1:=(dL.1 hs).1;rw [pK] at ho;omega
   ·rfl
  ·refine Jy K (k+1) (fun j id o h1 h2 h3 h4=>?_) hl;have:=h j id o h1 h2 aA aw
   rwa [show id - k=(id - (k+1))+1 from aw,pN] at this
def zb.blind (sel:List Nat) {K H0:zl} {T:iD} {args args0:List C} {r:C} (h:zb P f H0 args0 r H0) (hR:qP H0=true)
  (hH:xA sel K=H0) (ha:args.map (x9 sel 9)=args0) (z7:sel.all (fun id=>Nat.blt id K.length)=true) (ff:ym sel=true) (eX:T.flat=true) (hk:sel.all (mM T.keep)=true)
  (hb:∀ n,(sel.map fun id=>zG (qZ sel n) (zK sel ((K[id]?).getD dead)))=sel.map fun id=>(K[id]?).getD dead) (hr:∀ n,yQ (qZ sel n) 9 r=r):∀ H2,XC T K H2->zb P f H2 args r H2:=fun H2 hx=>by
 have same:∀ id ∈ sel,H2[id]?= K[id]?:=fun id hid=>hx.1 id (dV.1 hk id hid)
 have hH2:xA sel H2=H0:=(SQ same).trans hH
 have ux:∀ id ∈ sel,∃ o,K[id]?= some o∧H2[id]?= some o:=fun id hid=>by
  have h1:=dV.1 z7 id hid;have h1:id < K.length:=rz h1;exact ⟨K[id],aD,by rw [same id hid];simp [h1]⟩
 have h2:=h.part sel (K:=H2) (args:=args) hR hH2 ha (dV.2 fun id hid=>by
  obtain ⟨o,_,h3⟩:=ux id hid;exact Nat.ble_eq_true_of_le (dL.1 h3).1) ff (hx.2 eX)
 rw [hr] at h2;have hlen:H0.length=sel.length:=by rw [<- hH];simp [xA]
 have e:wx sel H2 H0=H2:=by
  unfold wx;rw [List.drop_eq_nil_of_le aw,List.map_nil,rJ];refine Jy H2 0 (fun j id o h3 h4 h5 _=>?_) aw;obtain ⟨o1,h6,h7⟩:=ux id (dO h3);have h8:=pW (·[j]?) (hb H2.length);simp only [dP,h3,dX,h6,gY] at h8;rw [<- hH] at h4;simp only [xA,dP,h3,dX,h6,gY] at h4;cases h4
  simp only [pY];rw [h7];exact h8.symm
 rw [e] at h2;exact h2
def ai {K H0:zl}{T:iD}{args args0:List C}{r:C}(sel:List Nat)(h:zb P f H0 args0 r H0)(hR:qP H0=true:=by exact rfl)(hH:xA sel K=H0:=by exact rfl)(ha:args.map (x9 sel 9)=args0:=by exact rfl)(z7:sel.all (fun id=>Nat.blt id K.length)=true:=by exact rfl)(ff:ym sel=true:=by exact rfl)(eX:T.flat=true:=by exact rfl)(hk:sel.all (mM T.keep)=true:=by exact rfl)(hb:∀ n,(sel.map fun id=>zG (qZ sel n) (zK sel ((K[id]?).getD dead)))=sel.map fun id=>(K[id]?).getD dead:=by exact fun _=>rfl)(hr:∀ n,yQ (qZ sel n) 9 r=r:=by exact fun _=>rfl):∀ H2,XC T K H2->zb P f H2 args r H2:=zb.blind sel h hR hH ha z7 ff eX hk hb hr
end
end Go.Ab
namespace Go.Ab
def Fm {ob:Ob} (h:∀ r ∈ ob.rows,∀ c ∈ r,zy c=true) {i k:Nat} {c:C} (hc:cellAt ob.rows i k=some c):zy c=true:=by
 unfold cellAt at hc;cases hx:ob.rows[i]? with
 | none=>rw [hx] at hc;cases hc
 | some r=>rw [hx] at hc;exact h r (dO hx) c (dO hc)
def BL {H:zl} {id:Nat} {ob:Ob} (hob:H[id]?= some ob) (hk:ob.kind=1∨ob.kind=2):z6 H id []=some (ob.sz,ob.rows):=by
 unfold z6;rw [hob];simp [hk,qQ]
def wO {H:zl} {id:Nat} {ob ob':Ob} (hob:H[id]?= some ob) (hk:ob.kind=1∨ob.kind=2) (hno':∀ r ∈ ob'.rows,∀ c ∈ r,zy c=true) {id':Nat} {p:List eK} {x:Nat × List (List C)}
  (h:z6 (H.set id ob') id' p=some x):(id'≠id∧z6 H id' p=some x)∨(id'=id∧p=[]∧x=(ob'.sz,ob'.rows)∧z6 H id []=some (ob.sz,ob.rows)):=by
 obtain ⟨ob2,ho,hk2,hg⟩:=jc h;by_cases hi:id'=id
 ·subst hi
  right
  rw [dY,dQ rfl,dQ (dL.1 hob).1] at ho;cases ho
  obtain ⟨rfl,rfl⟩:=kQ (fun i k c hc=>Fm hno' hc) hg;exact ⟨rfl,rfl,rfl,BL hob hk⟩
 ·left
  refine ⟨hi,?_⟩;rw [dY,dN (Ne.symm hi)] at ho;unfold z6;rw [ho];simp only [hk2,if_true];exact hg
def qd.B0 {w:World} {E:Env} {H:zl} (h:qd w E H) {id:Nat} {ob ob':Ob} (hob:H[id]?= some ob) (hk:ob.kind=1∨ob.kind=2) (hk':ob'.kind=1∨ob'.kind=2)
  (hty:ob'.kind=2->∃ cur,w.heap[E.β id []]?= some (.cells cur ob'.ty (0,0))) (hsz:ob'.sz=ob.sz) (hfz:ob'.fz=ob.fz) (hlen:ob'.rows.length<=ob.rows.length) (hfz0:ob'.fz<=ob'.rows.length)
  (hrow:∀ r ∈ ob'.rows,r.length=ob.sz) (hno:∀ r ∈ ob.rows,∀ c ∈ r,zy c=true) (hno':∀ r ∈ ob'.rows,∀ c ∈ r,zy c=true)
  (hc:∀ (i k:Nat) c c' u,cellAt ob.rows i k=some c->cellAt ob'.rows i k=some c'->L (E.at ob.kind) c u->w.cell? ⟨E.β id [],i * ob.sz+k,none⟩=some u->L (E.at ob'.kind) c' u):qd w E (H.set id ob') where
 n:=aq h.n
 u9 id' ob2 p sz' rows' hob2 hx:=by
  rcases wO hob hk hno' hx with ⟨h1,h2⟩ | ⟨rfl,rfl,h1,h2⟩
  ·rw [dY,dN (Ne.symm h1)] at hob2;exact h.u9 id' ob2 p sz' rows' hob2 h2
  ·rw [dY,dQ rfl,dQ (dL.1 hob).1] at hob2;cases hob2
   cases h1
   have hb:=h.u9 _ _ _ _ _ hob h2;rw [hsz];refine ⟨gW hlen hb.len,hrow,?_⟩;obtain ⟨cur,e,h3,h4,h5⟩:=hb.u9;refine ⟨cur,e,h3,h4,?_⟩;intro i k c' hc';obtain ⟨hi,hkk⟩:=C9 hrow hc';obtain ⟨c,hc0⟩:=wI hb.row (gU hi hlen) hkk;obtain ⟨u,hu,ho⟩:=h5 i k c hc0;refine ⟨u,hu,?_⟩;rw [qT.loose (Fm hno hc0)] at ho;rw [qT.loose (Fm hno' hc')];exact ⟨hc i k c c' u hc0 hc' ho.1 (by unfold World.cell?;rw [h3];simpa using hu),ho.2⟩
 inj i p j q x y hx hy he:=by
  have key:∀ i p x,z6 (H.set id ob') i p=some x->∃ x',z6 H i p=some x':=fun i p x hx=>by
   rcases wO hob hk hno' hx with ⟨h1,h2⟩ | ⟨rfl,rfl,h1,h2⟩
   ·exact ⟨x,h2⟩
   ·exact ⟨_,h2⟩
  obtain ⟨x',hx'⟩:=key i p x hx;obtain ⟨y',hy'⟩:=key j q y hy;exact h.inj i p j q x' y' hx' hy' he
 qs:=h.qs
 sep i p x o u hx hu:=by
  rcases wO hob hk hno' hx with ⟨h1,h2⟩ | ⟨rfl,rfl,h1,h2⟩
  ·obtain ⟨e1,ob2,e2,e3⟩:=h.sep i p x o u h2 hu;exact ⟨e1,ob2,by rw [dY,dN (Ne.symm h1)];exact e2,e3⟩
  ·obtain ⟨e1,ob2,e2,e3⟩:=h.sep _ [] _ o u h2 hu;rw [hob] at e2;cases e2
   exact ⟨rfl,ob',by rw [dY,dQ rfl,dQ (dL.1 hob).1],by rw [hfz,hsz];exact e3⟩
 ty i ob2 ho hk2:=by
  rw [dY] at ho;split at ho
  ·rename_i e;subst e;split at ho
   ·cases ho;exact hty hk2
   ·cases ho
  ·exact h.ty i ob2 ho hk2
 fz i ob2 ho:=by
  rw [dY] at ho;split at ho
  ·split at ho
   ·cases ho;exact hfz0
   ·cases ho
  ·exact h.fz i ob2 ho
def qd.Aj {w:World} {E:Env} {H:zl} (h:qd w E H) {id:Nat} {ob ob':Ob} (hob:H[id]?= some ob) (hk:ob.kind=1∨ob.kind=2) (hk':ob'.kind=1∨ob'.kind=2)
  (hty:ob'.kind=2->∃ cur,w.heap[E.β id []]?= some (.cells cur ob'.ty (0,0))) (hsz:ob'.sz=ob.sz) (hfz:ob'.fz=ob.fz) (hlen:ob'.rows.length=ob.rows.length)
  (hrow:∀ r ∈ ob'.rows,r.length=ob.sz) (hno:∀ r ∈ ob.rows,∀ c ∈ r,zy c=true) (hno':∀ r ∈ ob'.rows,∀ c ∈ r,zy c=true)
  (hc:∀ (i k:Nat) c c' u,cellAt ob.rows i k=some c->cellAt ob'.rows i k=some c'->L (E.at ob.kind) c u->w.cell? ⟨E.β id [],i * ob.sz+k,none⟩=some u->L (E.at ob'.kind) c' u):qd w E (H.set id ob'):=
 h.B0 hob hk hk' hty hsz hfz (r7 hlen) (by rw [hfz,hlen];exact h.fz id _ hob) hrow hno hno' hc
def qu.B0 {w:World} {E:Env} {H:zl} (h:qu w E H) {id:Nat} {ob ob':Ob} (hob:H[id]?= some ob) (hk:ob.kind=1∨ob.kind=2) (hk':ob'.kind=1∨ob'.kind=2)
  (hty:ob'.kind=2->∃ cur,w.heap[E.β id []]?= some (.cells cur ob'.ty (0,0))) (hsz:ob'.sz=ob.sz) (hfz:ob'.fz=ob.fz) (hlen:ob'.rows.length<=ob.rows.length) (hfz0:ob'.fz<=ob'.rows.length)
  (hrow:∀ r ∈ ob'.rows,r.length=ob.sz) (hno:∀ r ∈ ob.rows,∀ c ∈ r,zy c=true) (hno':∀ r ∈ ob'.rows,∀ c ∈ r,zy c=true)
  (hc:∀ (i k:Nat) c c' u,cellAt ob.rows i k=some c->cellAt ob'.rows i k=some c'->L (E.at ob.kind) c u->w.cell? ⟨E.β id [],i * ob.sz+k,none⟩=some u->L (E.at ob'.kind) c' u):qu w E (H.set id ob')∧Grow w E H w E (H.set id ob'):=by
 have hR:=h.base.B0 hob hk hk' hty hsz hfz hlen hfz0 hrow hno hno' hc
 have hG:qB w E H w E (H.set id ob'):=⟨Env.le.refl E,fun _ _ _=>rfl,rfl,rfl,rfl,dW _,fun _ _ _=>rfl,fun _ _ _ h=>.inl h,fun b ⟨i,p,x,hx,he⟩=>by
  rcases wO hob hk hno' hx with ⟨h1,h2⟩ | ⟨rfl,rfl,h1,h2⟩
  ·exact .inr ⟨i,p,x,h2,he⟩
  ·exact .inr ⟨_,[],_,h2,he⟩⟩
 have hk4:=jD.Ms (ob':=ob') hob (by rcases hk with h | h <;> rw [h] <;> decide) (by rcases hk' with h | h <;> rw [h] <;> decide);exact ⟨⟨hR,iZ.step h hG hk4⟩,hG.up h hk4⟩
def qu.Aj {w:World} {E:Env} {H:zl} (h:qu w E H) {id:Nat} {ob ob':Ob} (hob:H[id]?= some ob) (hk:ob.kind=1∨ob.kind=2) (hk':ob'.kind=1∨ob'.kind=2)
  (hty:ob'.kind=2->∃ cur,w.heap[E.β id []]?= some (.cells cur ob'.ty (0,0))) (hsz:ob'.sz=ob.sz) (hfz:ob'.fz=ob.fz) (hlen:ob'.rows.length=ob.rows.length)
  (hrow:∀ r ∈ ob'.rows,r.length=ob.sz) (hno:∀ r ∈ ob.rows,∀ c ∈ r,zy c=true) (hno':∀ r ∈ ob'.rows,∀ c ∈ r,zy c=true)
  (hc:∀ (i k:Nat) c c' u,cellAt ob.rows i k=some c->cellAt ob'.rows i k=some c'->L (E.at ob.kind) c u->w.cell? ⟨E.β id [],i * ob.sz+k,none⟩=some u->L (E.at ob'.kind) c' u):qu w E (H.set id ob')∧Grow w E H w E (H.set id ob'):=
 h.B0 hob hk hk' hty hsz hfz (r7 hlen) (by rw [hfz,hlen];exact h.base.fz id _ hob) hrow hno hno' hc
def qu.rowsOf {w:World} {E:Env} {H:zl} (h:qu w E H) {id:Nat} {ob:Ob} (hob:H[id]?= some ob) (hk:ob.kind=1∨ob.kind=2):∀ r ∈ ob.rows,r.length=ob.sz:=(h.base.u9 _ _ _ _ _ hob (BL hob hk)).row
section
variable {B:Nat} {s:S}
def zo.Bf (id:Nat) {ty sz:Nat} {rows:List (List C)} (hob:s.H[id]?= some ⟨2,ty,sz,rows,0⟩) (hno:∀ r ∈ rows,∀ c ∈ r,zy c=true):zo B s ⟨s.tmps,s.H.set id ⟨1,0,sz,rows,0⟩⟩:=fun m w E a hs=>by
 have hrow:=hs.heap.rowsOf hob (.inr rfl)
 obtain ⟨hR,g⟩:=hs.heap.Aj hob (.inr rfl) (ob':=⟨1,0,sz,rows,0⟩) (.inl rfl) (fun h=>by cases h) rfl rfl rfl hrow hno hno fun i k c c' u e1 e2 hl _=>by
  rw [e1] at e2;cases e2
  exact hl.mono (by show (E.at 2).le (E.at 1);unfold Env.at;exact E.B4)
 exact ⟨E,⟨hR,hs.tmps,hs.defers,aq hs.base⟩,g.fA tB⟩
def qu.Lz {w:World} {E:Env} {H:zl} (hh:qu w E H) {id sz len ty kd:Nat} {full:Bool} {rows:List (List C)} {y:Value} (hl:L E (.sl id [] sz 0 len full) y) (hob:H[id]?= some ⟨kd,ty,sz,rows,0⟩) (hk:kd=1∨kd=2) (hlen:len=rows.length)
  (hsh:∀ r ∈ rows,∀ c ∈ r,jf c=true∧zy c=true):
  ∃ E1,qu w E1 (H.set id ⟨1,0,sz,rows,rows.length⟩)∧L E1 (.uv 0 sz rows) y∧Grow w E H w E1 (H.set id ⟨1,0,sz,rows,rows.length⟩):=by
 have hno:∀ r ∈ rows,∀ c ∈ r,zy c=true:=fun r h c hc=>(hsh r h c hc).2
 have hrow:=hh.rowsOf hob hk;obtain ⟨cur,e,h3,h4,h5⟩:=(hh.base.u9 _ _ _ _ _ hob (BL hob hk)).u9
 obtain ⟨hR1,g1⟩:=hh.Aj hob hk (ob':=⟨2,e,sz,rows,0⟩) (.inr rfl) (fun _=>⟨cur,h3⟩) rfl rfl rfl hrow hno hno fun i k c c' u e1 e2 hl _=>by
  rw [e1] at e2;cases e2
  unfold cellAt at e1;cases hx:rows[i]? with
  | none=>rw [hx] at e1;cases e1
  | some r=>
   rw [hx] at e1;have hs:=(hsh r (dO hx) c (dO e1)).1;exact (hl.mono (E.Mc kd)).vL hs
 have ux:id < H.length:=(dL.1 hob).1;obtain ⟨E1,hR2,hl2,g2⟩:=hR1.IT hl (by rw [dY,dQ rfl,dQ ux]) hlen hno;rw [gF] at hR2 g2
 obtain ⟨hR3,g3⟩:=hR2.Aj (id:=id) (ob:=⟨2,e,sz,rows,rows.length⟩) (by rw [dY,dQ rfl,dQ ux]) (.inr rfl) (ob':=⟨1,0,sz,rows,rows.length⟩) (.inl rfl) (fun h=>by cases h) rfl rfl rfl hrow hno hno fun i k c c' u e1 e2 hl _=>by
  rw [e1] at e2;cases e2
  exact hl.mono (by show (E1.at 2).le (E1.at 1);unfold Env.at;exact E1.B4)
 rw [gF] at hR3 g3;refine ⟨E1,hR3,?_,(g1.trans g2).trans g3⟩;cases full
 ·exact hl2
 ·exact WC.share 1 sz rows E1 y hl2
def zo.zV (vid i k:Nat) {id sz len ty kd vty vsz:Nat} {full:Bool} {r:List C} {rows vrows:List (List C)} (hv:s.H[vid]?= some ⟨1,vty,vsz,vrows,0⟩) (hr:vrows[i]?= some r) (hk:r[k]?= some (.sl id [] sz 0 len full)) (hob:s.H[id]?= some ⟨kd,ty,sz,rows,0⟩)
  (hkd:kd=1∨kd=2) (hne:(vid == id)=false) (hlen:len=rows.length) (hsh:∀ r ∈ rows,∀ c ∈ r,jf c=true∧zy c=true) (hno:∀ r ∈ vrows,∀ c ∈ r,zy c=true):
  zo B s ⟨s.tmps,(s.H.set id ⟨1,0,sz,rows,rows.length⟩).set vid ⟨1,vty,vsz,vrows.set i (r.set k (.uv 0 sz rows)),0⟩⟩:=fun m w E a hs=>by
 have hne:vid≠id:=aq hne
 obtain ⟨cur,e,h3,h4,h5⟩:=(hs.heap.base.u9 _ _ _ _ _ hv (BL hv (.inl rfl))).u9;have hrow:=hs.heap.rowsOf hv (.inl rfl);obtain ⟨u,hu,ho⟩:=h5 i k _ (show cellAt vrows i k=some (.sl id [] sz 0 len full) by unfold cellAt;rw [hr];exact hk);rw [qT.loose rfl] at ho;have hl:L E (.sl id [] sz 0 len full) u:=aF
 obtain ⟨E1,hh1,hl1,g1⟩:=hs.heap.Lz hl hob hkd hlen hsh;have hob1:(s.H.set id ⟨1,0,sz,rows,rows.length⟩)[vid]?= some ⟨1,vty,vsz,vrows,0⟩:=by rw [dY,dN (Ne.symm hne)];exact hv
 have hβ:E1.β vid []=E.β vid []:=g1.le.β vid [] (by rw [hs.heap.n];exact (dL.1 hv).1)
 have hcu:w.cell? ⟨E1.β vid [],i * vsz+k,none⟩=some u:=by
  unfold World.cell?;rw [hβ,h3];simpa using hu
 have hin:=dO hr;have hset:∀ q ∈ vrows.set i (r.set k (.uv 0 sz rows)),q ∈ vrows∨q=r.set k (.uv 0 sz rows):=fun q hq=>pd hq
 obtain ⟨hR,g2⟩:=hh1.Aj hob1 (.inl rfl) (ob':=⟨1,vty,vsz,vrows.set i (r.set k (.uv 0 sz rows)),0⟩) (.inl rfl) (fun h=>by cases h) rfl rfl aj (fun q hq=>by
   rcases hset q hq with h | rfl
   ·exact hrow q h
   ·simpa using hrow r hin) hno (fun q hq c hc=>by
   rcases hset q hq with h | rfl
   ·exact hno q h c hc
   ·rcases pd hc with h | rfl
    ·exact hno r hin c h
    ·rfl) fun i' k' c c' v e1 e2 hl' hv'=>by
  have hat:∀ X:Env,X.at 1=X:=fun X=>by simp [Env.at]
  rw [hat] at hl' ⊢;unfold cellAt at e1 e2;rw [dY] at e2;split at e2
  ·rename_i e;subst e;split at e2
   ·simp only [gz] at e2;rw [hr] at e1;simp only [gz] at e1;rw [dY] at e2;split at e2
    ·rename_i e;subst e;split at e2
     ·cases e2
      rw [hcu] at hv';cases hv'
      exact hl1
     ·cases e2
    ·rw [e1] at e2;cases e2
     exact hl'
   ·cases e2
  ·rw [e1] at e2;cases e2
   exact hl'
 exact c8
def zo.Ik (t:Nat) {id sz len ty kd:Nat} {full:Bool} {rows:List (List C)} (ht:s.tmps[t]?= some (.sl id [] sz 0 len full)) (hob:s.H[id]?= some ⟨kd,ty,sz,rows,0⟩) (hkd:kd=1∨kd=2) (hlen:len=rows.length)
  (hsh:∀ r ∈ rows,∀ c ∈ r,jf c=true∧zy c=true):zo B s ⟨s.tmps.set t (.uv 0 sz rows),s.H.set id ⟨1,0,sz,rows,rows.length⟩⟩:=fun m w E a hs=>by
 obtain ⟨y,hy,hl⟩:=hs.tmps.get ht;obtain ⟨E1,hh1,hl1,g⟩:=hs.heap.Lz hl hob hkd hlen hsh;have h2:=(hs.tmps.mono g.le).set hl1 t;have e:a.tmps.toList.set t y=a.tmps.toList:=yD hy;rw [e] at h2;exact ⟨E1,⟨hh1,h2,hs.defers.grow hs.heap g,by have:=hs.base;simpa using this⟩,g.fA tB⟩
def zo.shrink (id:Nat) {ty sz:Nat} {rows rows':List (List C)} (hob:s.H[id]?= some ⟨2,ty,sz,rows++rows',0⟩) (hno:∀ r ∈ rows++rows',∀ c ∈ r,zy c=true):zo B s ⟨s.tmps,s.H.set id ⟨2,ty,sz,rows,0⟩⟩:=fun m w E a hs=>by
 have hrow:=hs.heap.rowsOf hob (.inr rfl)
 obtain ⟨hR,g⟩:=hs.heap.B0 hob (.inr rfl) (ob':=⟨2,ty,sz,rows,0⟩) (.inr rfl) (fun _=>hs.heap.base.ty id ⟨2,ty,sz,rows++rows',0⟩ hob rfl) rfl rfl aj (gA _) (fun r hr=>hrow r (tz _ hr)) hno (fun r hr=>hno r (tz _ hr)) fun i k c c' u e1 e2 hl _=>by
  have:cellAt (rows++rows') i k=some c':=by
   unfold cellAt at e2 ⊢;cases hr:rows[i]? with
   | none=>rw [hr] at e2;cases e2
   | some r=>rw [hr] at e2;rw [dT (dL.1 hr).1,hr];exact e2
  rw [e1] at this;cases this
  exact hl
 exact ⟨E,⟨hR,hs.tmps,hs.defers.grow hs.heap g,by have:=hs.base;simpa using this⟩,g.fA tB⟩
end
def zb.mL {P:Program} {f:FuncId} {H H1 H2:zl} {args:List C} {r r':C} (h:zb P f H args r H1) (hw:∀ B,B<=H.length->B<=H1.length->zo B ⟨[r],H1⟩ ⟨[r'],H2⟩) (hl:H.length<=H2.length):zb P f H args r' H2:=fun w E vs hh hl0=>by
 refine (h w E vs hh hl0).mono ?_;rintro e w' ⟨v,E',h1,h2,h3,g⟩;have hHH:H.length<=H1.length:=bT
 obtain ⟨E2,hs,g2⟩:=hw H.length (dW _) hHH 0 w' E' ⟨#[v],[]⟩ ⟨h2,LL.one h3,gA _,hHH⟩;have hn2:=hs.heap.n;refine ⟨v,E2,h1,hs.heap,hs.tmps.cons_inv.1,⟨⟨by rw [hh.n,hn2];exact hl,fun id hops hi=>?_,fun id hops hi=>?_,fun b o u hu=>g2.le.St _ _ _ (g.le.St _ _ _ hu),fun id k u hi hu=>?_⟩,g2.os.trans g.os,g2.tape.trans g.tape,g2.output.trans g.output,gW g.size g2.size,?_,?_,?_⟩⟩
 ·rw [hh.n] at hi;exact (g2.le.β id hops hi).trans (g.le.β id hops tO)
 ·rw [hh.n] at hi;exact (g2.le.κ id hops hi).trans (g.le.κ id hops tO)
 ·rw [hh.n] at hi;exact g2.le.G id k u hi (g.le.G id k u tO hu)
 ·intro k hk ho;exact cW
 ·intro b o u hu;rcases g2.jK b o u hu with h1 | h1 | h1
  ·exact g.jK b o u h1
  ·exact .inr (.inl (gW g.size h1))
  ·rcases g.own b h1 with h4 | h4
   ·exact .inr (.inl h4)
   ·exact .inr (.inr h4)
 ·intro b hb;rcases g2.own b hb with h1 | h1
  ·exact .inl (gW g.size h1)
  ·exact g.own b h1
section
variable {P:Program} {B:Nat}
structure RK (P:Program) (B:Nat) (c:Code) (t:List C) (H:zl) (K:Exit->List C->zl->Prop):Prop where
 out:qW P B c ⟨t,H⟩ fun ex s=>K ex s.tmps s.H
def RK.mL {c:Code} {t t1:List C} {H H1:zl} {K:Exit->List C->zl->Prop} (hw:zo B ⟨t,H⟩ ⟨t1,H1⟩) (h:RK P B c t1 H1 K):RK P B c t H K:=⟨.pre hw h.out⟩
def RK.seq {x y:Code} {t:List C} {H:zl} {K:Exit->List C->zl->Prop} (h:RK P B x t H fun ex t1 H1=>match ex with
  | .normal=>RK P B y t1 H1 K
  | ex=>K ex t1 H1):RK P B (.seq x y) t H K:=⟨.seq (h.out.mono fun ex s1 h1=>by
 cases ex with
 | normal=>exact (show RK P B y s1.tmps s1.H K from h1).out
 | _=>exact h1)⟩
def RK.block {id:Nat} {c:Code} {t:List C} {H:zl} {K:Exit->List C->zl->Prop} (h:RK P B c t H fun ex t1 H1=>match ex with
  | .exit id'=>if id'=id then K .normal t1 H1 else K (.exit id') t1 H1
  | ex=>K ex t1 H1):RK P B (.block id c) t H K:=⟨.block (h.out.mono fun ex s1 h1=>by
 cases ex with
 | exit id'=>exact h1
 | _=>exact h1)⟩
structure OK (P:Program) (B:Nat) (ops:Array Oper) (l:List Oper) (t:List C) (H:zl) (R:S->Prop):Prop where
 out:kY P B ops l ⟨t,H⟩ R
def RK.cond {c:Operand} {x y:Code} {b:Bool} {t:List C} {H:zl} {K:Exit->List C->zl->Prop} (hc:ev t c=.v (.bool b)) (h:RK P B (if b then x else y) t H K):RK P B (.cond c x y) t H K:=⟨.cond (s:=⟨t,H⟩) hc h.out⟩
def OK.nil {ops:Array Oper} {t:List C} {H:zl} {R:S->Prop} (h:R ⟨t,H⟩):OK P B ops [] t H R:=⟨.nil h⟩
def OK.run {ops:Array Oper} {o:Oper} {l:List Oper} {t:List C} {H:zl} {R:S->Prop} (hw:jF ops t o=some true) (h:jE P o (ev t) H fun c H'=>OK P B ops l (put t o.dst c) H' R):OK P B ops (o::l) t H R:=
 ⟨.run (s:=⟨t,H⟩) hw (.DE (s:=⟨t,H⟩) h) (by rintro s1 ⟨c,H',h1,rfl⟩;exact h1.out)⟩
variable {o:Oper} {ρ:Operand->C} {H:zl}
def zX {f:FuncId} (sel:List Nat) (Kx:zl) {K H0 H':zl} {args args0:List C} {r rx:C} (h:zb P f H0 args0 r H') (hR:qP H'=true)
  (hH:xA sel K=H0) (ha:args.map (x9 sel 9)=args0) (z7:sel.all (fun id=>Nat.blt id K.length)=true) (ff:ym sel=true) (eX:qP K=true) {k:C->zl->Prop}
  (hp:wx sel K H'=Kx) (hr:yQ (qZ sel K.length) 9 r=rx) (hk:okB rx fun c=>k c Kx):∃ r H2,zb P f K args r H2∧okB r fun c=>k c H2:=
 ⟨_,_,h.part sel hR hH ha z7 ff eX,by rw [hp,hr];exact hk⟩
end
def zb.o9 {P:Program} {f:FuncId} {fn:Func} {c:Code} {args:List C} {r:C} (hf:P.funcs[f]?= some fn) (hb:fn.body=some c)
  (h:qW P 0 c ⟨entry fn args,[]⟩ fun ex s=>(ex=.ret∨ex=.normal)∧∃ s2,zo 0 s s2∧(kH P fn s2).map (yq 0 9)=some r):zb P f [] args r []:=by
 refine qC.GH (qC.wt (H:=[]) hf hb (h.mono fun ex s1 ⟨hex,s2,hw,h2⟩=>?_));cases h3:kH P fn s2 with
 | none=>rw [h3] at h2;cases h2
 | some r0=>
  rw [h3] at h2;cases h2
  exact ⟨hex,s2,r0,hw,h3,rfl⟩
def E0 (w:World):Env:=
 { n:=0,β:=fun _ _=>0,κ:=fun _ _=>0,St:=fun b o=>match w.cell? ⟨b,o,none⟩ with | some u=>if u.oneCell' then some u else none | none=>none }
def L8 {w:World} {b o:Nat} {u:Value}:(E0 w).St b o=some u↔w.cell? ⟨b,o,none⟩=some u∧u.oneCell'=true:=by
 unfold E0;dsimp only;cases h:w.cell? ⟨b,o,none⟩ with
 | none=>simp
 | some v=>
  dsimp only;split
  ·rename_i h1;constructor
   ·intro e;cases e;exact ⟨rfl,h1⟩
   ·rintro ⟨e,_⟩;exact e
  ·rename_i h1;constructor
   ·intro e;cases e
   ·rintro ⟨e,h2⟩;cases e;exact absurd h2 h1
def T3 (w:World):qu w (E0 w) [] where
 base:=⟨rfl,aj,by simp [z6],fun b o u h=>L8.1 h,by simp [z6],aj,aj⟩
 uy:=⟨aj,aj,fun id b ⟨ob,_,h,_⟩=>by simp at h,fun _ _ b ⟨ob,_,h,_⟩=>by simp at h,aj,aj,aj,fun _ _ b ⟨ob,_,_,h,_⟩=>by simp at h⟩
def fits (P:Program) {H:Type} (t:TypeId) (d:DataW H):Prop:=(d.weights P t).all (·<=reachBytes)=true
def qo (P:Program) (t:TypeId) {α:Type} (enc:α->List C) (wf:α->Prop):Prop:=
 ∀ {H:Type} (eH:TypeId × Value->H) (w:World) (fuel:Nat) (cs:List Value) (d:DataW H) (ps:List MemPlace),
  DataW.trod eH P w 0 (fun _=>true) true fuel t cs=some (d,ps)->fits P t d->∃ x,wf x∧LL (E0 w) (enc x) cs∧∀ u ∈ cs,u.oneCell'=true
section
variable {P:Program} {t:TypeId}
def qo.int {k:IntKind} (ht:P.underlying t=some (.int k)):qo P t (fun n:Int=>[.v (.int k n)]) (fun n=>(Lit.int k n).wf=true):=by
 intro H eH w fuel cs d ps h _;cases fuel with
 | zero=>cases h
 | succ fuel=>
  rcases cs with _ | ⟨v,_ | ⟨v2,r⟩⟩
  ·simp [DataW.trod,ht] at h
  ·cases v <;> simp [DataW.trod,ht] at h
   obtain ⟨⟨rfl,hw⟩,_⟩:=h;exact ⟨_,hw,.one (.v _ rfl),bY⟩
  ·simp [DataW.trod,ht] at h
def qo.bool (ht:P.underlying t=some .bool):qo P t (fun b:Bool=>[.v (.bool b)]) (fun _=>True):=by
 intro H eH w fuel cs d ps h _;cases fuel with
 | zero=>cases h
 | succ fuel=>
  rcases cs with _ | ⟨v,_ | ⟨v2,r⟩⟩
  ·simp [DataW.trod,ht] at h
  ·cases v <;> simp [DataW.trod,ht] at h
   exact ⟨_,trivial,.one (.v _ rfl),bY⟩
  ·simp [DataW.trod,ht] at h
def qo.string (ht:P.underlying t=some .string):qo P t (fun s:ByteArray=>[.v (.string s)]) (fun s=>s.size<=reachBytes):=by
 intro H eH w fuel cs d ps h hf;cases fuel with
 | zero=>cases h
 | succ fuel=>
  rcases cs with _ | ⟨v,_ | ⟨v2,r⟩⟩
  ·simp [DataW.trod,ht] at h
  ·cases v <;> simp [DataW.trod,ht] at h
   obtain ⟨_,rfl,_⟩:=h;refine ⟨_,?_,.one (.v _ rfl),bY⟩;simpa [fits,DataW.weights] using hf
  ·simp [DataW.trod,ht] at h
def SM {w:World} {a:Addr} (ha:a.spot=none) {n:Nat} {cs:List Value} (h:w.cells? 0 a n=some cs):cs.length=n∧∀ (j:Nat) u,cs[j]?= some u->w.cell? ⟨a.block,a.off+j,none⟩=some u:=by
 unfold World.cells? at h;rw [dQ (gA _)] at h
 have key:∀ (m k:Nat) (cs:List Value),((List.range' k m).mapM fun i=>w.cell? (a.add i))=some cs->cs.length=m∧∀ (j:Nat) u,cs[j]?= some u->w.cell? (a.add (k+j))=some u:=by
  intro m
  induction m with
  | zero=>intro k cs h;simp at h;subst h;simp
  | succ m ih=>
   intro k cs h;rw [List.range'_succ,se] at h;cases h1:w.cell? (a.add k) with
   | none=>rw [h1] at h;cases h
   | some u0=>
    rw [h1] at h;cases h2:((List.range' (k+1) m).mapM fun i=>w.cell? (a.add i)) with
    | none=>rw [h2] at h;cases h
    | some r=>
     rw [h2] at h;cases h
     obtain ⟨h3,h4⟩:=ih (k+1) r h2;refine ⟨bM,?_⟩;intro j u hj;cases j with
     | zero=>simp at hj;subst hj;exact h1
     | succ j=>simp at hj;have:=h4 j u hj;rw [show k+1+j=k+(j+1) by omega] at this;exact dy
 rw [sr] at h;obtain ⟨h1,h2⟩:=key n 0 cs h;refine ⟨h1,fun j u hj=>?_⟩;have:=h2 j u hj;rw [gp] at this;unfold Addr.add at this;split at this
 ·rename_i hj0;subst hj0;obtain ⟨b,o,sp⟩:=a;cases ha;exact dy
 ·exact dy
def C1 {β:Type} {f:Nat->Option β}:∀ {n k:Nat} {xs:List β},(List.range' k n).mapM f=some xs->xs.length=n∧∀ (j:Nat) x,xs[j]?= some x->f (k+j)=some x
 | 0,k,xs,h=>by simp at h;subst h;simp
 | n+1,k,xs,h=>by
  rw [List.range'_succ,se] at h;cases h1:f k with
  | none=>rw [h1] at h;cases h
  | some u0=>
   rw [h1] at h;cases h2:(List.range' (k+1) n).mapM f with
   | none=>rw [h2] at h;cases h
   | some r=>
    rw [h2] at h;cases h
    obtain ⟨h3,h4⟩:=C1 h2;refine ⟨bM,?_⟩;intro j u hj;cases j with
    | zero=>simp at hj;subst hj;exact h1
    | succ j=>simp at hj;have:=h4 j u hj;rw [show k+1+j=k+(j+1) by omega] at this;exact dy
def Re {w:World} {a:Addr} {u:Value} (h:w.cell? a=some u):a.spot=none:=by
 unfold World.cell? at h;split at h
 ·split at h
  ·cases h
  ·rename_i hs;simpa using hs
 ·cases h
def Js {w:World} {a:Addr} {n:Nat} {cs:List Value} (h:w.cells? 0 a n=some cs) (hn:0 < n):a.spot=none:=by
 unfold World.cells? at h;rw [dQ (gA _),sr] at h;obtain ⟨h1,h2⟩:=C1 h;have h3:cs[0]?= some cs[0]:=by simp [h1,hn]
 have:=h2 0 _ h3;simp [Addr.add] at this;exact Re this
def HY {H:Type} {e:TypeId}:∀ {l:List (DataW H)} {d:DataW H},d ∈ l->∀ n ∈ d.weights P e,n ∈ DataW.weightsAll P e l
 | d0::l,d,hd,n,hn=>by
  simp only [DataW.weightsAll,gH];rcases rq.1 hd with rfl | hd
  ·exact .inl hn
  ·exact .inr (HY hd n hn)
def qo.slice {e:TypeId} {α:Type} {enc:α->List C} {wf:α->Prop} (ht:P.underlying t=some (.slice e)) {sz by_:Nat} (hc:P.cellsOf e=sz) (hb:P.bytesOf e=by_) (hpos:0 < sz) (hsz:∀ x,(enc x).length=sz)
  (h:qo P e enc wf):qo P t (fun l:List α=>[.uv 0 sz (l.map enc)]) (fun l=>(∀ x ∈ l,wf x)∧l.length * by_<=reachBytes):=by
 subst hc;subst hb;intro H eH w fuel cs d ps hr hf;cases fuel with
 | zero=>cases hr
 | succ fuel=>
  rcases cs with _ | ⟨v,_ | ⟨v2,r⟩⟩
  ·simp [DataW.trod,ht] at hr
  rotate_left
  ·simp [DataW.trod,ht] at hr
  have nil:∀ a,∃ x:List α,((∀ y ∈ x,wf y)∧x.length * P.bytesOf e<=reachBytes)∧LL (E0 w) [.uv 0 (P.cellsOf e) (x.map enc)] [.slice a 0 0]∧∀ u ∈ [Value.slice a 0 0],u.oneCell'=true:=fun a=>
   ⟨[],⟨aj,aj⟩,.one (.xt 0 _ (.inl rfl) a),bY⟩
  cases v with
  | slice a len cap=>
   cases a with
   | none=>
    by_cases hz:len=0∧cap=0
    ·obtain ⟨rfl,rfl⟩:=hz;exact nil none
    ·exfalso
     unfold DataW.trod at hr;rw [ht] at hr;dsimp only at hr;split at hr <;> simp_all
   | some a=>
    simp only [DataW.trod,ht] at hr;split at hr
    rotate_left
    ·cases hr
    rename_i hbound;rw [sr] at hr;simp only [sr,if_true] at hr;cases h1:(List.range' 0 len).mapM fun i=>(w.cells? 0 (a.add (i * P.cellsOf e)) (P.cellsOf e)).bind (DataW.trod eH P w 0 (fun _=>true) true fuel e) with
    | none=>rw [h1] at hr;cases hr
    | some elems=>
     rw [h1] at hr;simp only [gz] at hr;cases h2:(List.range' 0 (cap - len)).mapM fun j=>(w.cells? 0 (a.add ((len+j) * P.cellsOf e)) (P.cellsOf e)).bind (DataW.trod eH P w 0 (fun _=>true) true fuel e) with
     | none=>rw [h2] at hr;cases hr
     | some rest=>
      rw [h2] at hr;simp only [dX,gu,Prod.mk.injEq] at hr;obtain ⟨rfl,_⟩:=hr;obtain ⟨l1,g1⟩:=C1 h1;obtain ⟨l2,g2⟩:=C1 h2;by_cases hz:cap=0
      ·have hl0:len=0:=by omega
       subst hz;subst hl0;exact nil (some a)
      ·have hspot:a.spot=none:=by
        by_cases hl:len=0
        ·have h3:rest[0]?= some (rest[0]'aw):=dM _;have h4:=g2 0 _ h3;subst hl;simp only [gp,tu] at h4;cases h5:w.cells? 0 (a.add 0) (P.cellsOf e) with
         | none=>rw [h5] at h4;cases h4
         | some cs=>have:=Js h5 hpos;simpa [Addr.add] using this
        ·have h3:elems[0]?= some (elems[0]'aw):=dM _;have h4:=g1 0 _ h3;simp only [gp,tu] at h4;cases h5:w.cells? 0 (a.add 0) (P.cellsOf e) with
         | none=>rw [h5] at h4;cases h4
         | some cs=>have:=Js h5 hpos;simpa [Addr.add] using this
       have hfw:=hf;simp only [fits,DataW.weights,ht,rD,uu,dU,gh] at hfw;obtain ⟨hf1,hf2,_⟩:=hfw
       have each:∀ i,i < len->∃ x,wf x∧∃ cs,w.cells? 0 (a.add (i * P.cellsOf e)) (P.cellsOf e)=some cs∧LL (E0 w) (enc x) cs∧∀ u ∈ cs,u.oneCell'=true:=by
        intro i hi;have h3:elems[i]?= some elems[i]:=by simp [l1,hi]
        have h4:=g1 i _ h3;rw [gp] at h4;cases h5:w.cells? 0 (a.add (i * P.cellsOf e)) (P.cellsOf e) with
        | none=>rw [h5] at h4;cases h4
        | some cs=>
         rw [h5] at h4
         obtain ⟨x,hx1,hx2,hx3⟩:=h eH w fuel cs elems[i].1 elems[i].2 h4 (by
          unfold fits;rw [dV];intro n hn;refine dV.1 hf2 n (HY ?_ n hn);simp only [gG];exact ⟨elems[i],aj,rfl⟩)
         exact ⟨x,hx1,cs,rfl,hx2,hx3⟩
       have pick:∃ xs:List α,xs.length=len∧∀ (i:Nat) x,xs[i]?= some x->wf x∧∃ cs,w.cells? 0 (a.add (i * P.cellsOf e)) (P.cellsOf e)=some cs∧LL (E0 w) (enc x) cs∧∀ u ∈ cs,u.oneCell'=true:=by
        clear h1 h2 l1 l2 g1 g2 hf hf1 hf2
        clear hbound nil
        induction len with
        | zero=>exact ⟨[],rfl,aj⟩
        | succ n ih=>
         obtain ⟨xs,hx1,hx2⟩:=ih (fun i hi=>each i aw);obtain ⟨x,hx3⟩:=each n aw;refine ⟨xs++[x],by simp [hx1],?_⟩;intro i y hy;by_cases hi:i < n
         ·rw [dT aw] at hy;exact hx2 i y hy
         ·rw [gj aw] at hy
          have:i - xs.length=0:=by
           have:=(dL.1 hy).1;exact cP
          rw [this] at hy;cases hy
          obtain rfl:i=n:=aw
          exact hx3
       obtain ⟨xs,hx1,hx2⟩:=pick;refine ⟨xs,⟨fun x hx=>?_,?_⟩,.one ?_,bY⟩
       ·obtain ⟨i,hi⟩:=gm.1 hx;exact (hx2 i x hi).1
       ·rw [hx1];have:len * P.bytesOf e<=cap * P.bytesOf e:=pt _ hbound.2.1;simp [l1,l2] at hf1;have e1:len+(cap - len)=cap:=by omega
        rw [e1] at hf1;omega
       ·obtain ⟨b,off,sp⟩:=a;cases hspot
        have cell:∀ i r k c,(xs.map enc)[i]?= some r->r[k]?= some c->∃ u,(E0 w).St b (off+i * P.cellsOf e+k)=some u∧L (E0 w) c u:=by
         intro i r k c hr hc;rw [dP] at hr;cases hxi:xs[i]? with
         | none=>rw [hxi] at hr;cases hr
         | some x=>
          rw [hxi] at hr;cases hr
          obtain ⟨_,cs,e1,e2,e3⟩:=hx2 i x hxi;obtain ⟨u,hu,hl⟩:=e2.get hc;obtain ⟨_,hcell⟩:=SM (a:=(⟨b,off,none⟩:Addr).add (i * P.cellsOf e)) (by unfold Addr.add;split <;> rfl) e1;have:=hcell k u hu;rw [xC] at this;exact ⟨u,L8.2 ⟨this,e3 u (dO hu)⟩,hl⟩
        have hlen:(xs.map enc).length=len:=by simp [hx1]
        have:=L.uv (E:=E0 w) 0 (P.cellsOf e) (xs.map enc) b off cap (fun i k=>((E0 w).St b (off+i * P.cellsOf e+k)).getD undef) (.inl rfl) (by rw [hlen];exact hbound.2.1) ?_ ?_ ?_
        ·rw [hlen] at this;exact dy
        ·intro r hr;obtain ⟨x,_,rfl⟩:=gG.1 hr;exact hsz x
        ·intro i r k c h5 h6;obtain ⟨u,hu,_⟩:=cell i r k c h5 h6;rw [hu];rfl
        ·intro i r k c h5 h6;obtain ⟨u,hu,hl⟩:=cell i r k c h5 h6;rw [hu];exact hl
  | _=>
   unfold DataW.trod at hr;rw [ht] at hr;simp at hr
def qo.map {α β:Type} {enc:α->List C} {wf:α->Prop} {enc':β->List C} {wf':β->Prop} (h:qo P t enc wf) (g:α->β) (hg:∀ a,wf a->wf' (g a)∧enc' (g a)=enc a):qo P t enc' wf':=by
 intro H eH w fuel cs d ps hr hf;obtain ⟨x,h1,h2,h3⟩:=h eH w fuel cs d ps hr hf;exact ⟨g x,(hg x h1).1,by rw [(hg x h1).2];exact h2,h3⟩
def ja (P:Program) (fs:List Field) (off:Nat) {α:Type} (enc:α->List C) (wf:α->Prop):Prop:=
 ∀ {H:Type} (eH:TypeId × Value->H) (w:World) (fuel:Nat) (cs:List Value) (xs:List (DataW H × List MemPlace)),
  (fs.mapM fun f=>DataW.trod eH P w 0 (fun _=>true) true fuel f.type ((cs.drop f.offset).take (P.cellsOf f.type)))=some xs->
  (DataW.weightsEach P (fs.map (·.type)) (xs.map (·.1))).all (·<=reachBytes)=true->cs.length=off+(fs.map fun f=>P.cellsOf f.type).sum->∃ x,wf x∧LL (E0 w) (enc x) (cs.drop off)∧∀ u ∈ cs.drop off,u.oneCell'=true
def ja.nil (off:Nat):ja P [] off (fun _:Unit=>[]) (fun _=>True):=by
 intro H eH w fuel cs xs _ _ hl;simp at hl;rw [List.drop_eq_nil_of_le aw];exact ⟨(),trivial,LL.nil,aj⟩
def ja.cons {f:Field} {fs:List Field} {off:Nat} {α β:Type} {enc:α->List C} {wf:α->Prop} {enc':β->List C} {wf':β->Prop} (ho:f.offset=off) (h:qo P f.type enc wf) (h':ja P fs (off+P.cellsOf f.type) enc' wf'):
  ja P (f::fs) off (fun x:α × β=>enc x.1++enc' x.2) (fun x=>wf x.1∧wf' x.2):=by
 intro H eH w fuel cs xs hm hf hl;rw [se] at hm;cases h1:DataW.trod eH P w 0 (fun _=>true) true fuel f.type ((cs.drop f.offset).take (P.cellsOf f.type)) with
 | none=>rw [h1] at hm;cases hm
 | some x1=>
  rw [h1] at hm;cases h2:(fs.mapM fun f=>DataW.trod eH P w 0 (fun _=>true) true fuel f.type ((cs.drop f.offset).take (P.cellsOf f.type))) with
  | none=>rw [h2] at hm;cases hm
  | some r=>
   rw [h2] at hm;cases hm
   simp only [pI,DataW.weightsEach,uu,dU] at hf;obtain ⟨a,a1,a2,a3⟩:=h eH w fuel _ x1.1 x1.2 h1 hf.1;obtain ⟨b,b1,b2,b3⟩:=h' eH w fuel cs r h2 hf.2 (by simp at hl ⊢;omega);rw [ho] at a2 a3
   have e:cs.drop off=(cs.drop off).take (P.cellsOf f.type)++cs.drop (off+P.cellsOf f.type):=by
    rw [<- List.drop_drop,r6]
   refine ⟨(a,b),⟨a1,b1⟩,?_,?_⟩
   ·rw [e];exact a2.append b2
   ·rw [e];intro u hu;rcases gH.1 hu with hu | hu
    ·exact a3 u hu
    ·exact b3 u hu
def qo.struct {fs:Array Field} {α:Type} {enc:α->List C} {wf:α->Prop} (ht:P.underlying t=some (.struct fs)) (hc:P.cellsOf t=(fs.toList.map fun f=>P.cellsOf f.type).sum) (h:ja P fs.toList 0 enc wf):qo P t enc wf:=by
 intro H eH w fuel cs d ps hr hf;cases fuel with
 | zero=>cases hr
 | succ fuel=>
  unfold DataW.trod at hr;rw [ht] at hr;dsimp only at hr;split at hr
  ·rename_i hl;cases h2:(fs.toList.mapM fun f=>DataW.trod eH P w 0 (fun _=>true) true fuel f.type ((cs.drop f.offset).take (P.cellsOf f.type))) with
   | none=>rw [h2] at hr;cases hr
   | some xs=>
    rw [h2] at hr;cases hr
    obtain ⟨x,h3,h4,h5⟩:=h eH w fuel cs xs h2 (by simpa [fits,DataW.weights,ht] using hf) (by rw [hl,hc];simp);exact ⟨x,h3,aq h4,aq h5⟩
  ·cases hr
def F1 (P:Program) (t:TypeId) {α:Type} (c:α->C) (wf:α->Prop):Prop:=
 ∀ {H:Type} (eH:TypeId × Value->H) (w:World) (base:Nat) (v:Value) (d:DataW H) (ps:List MemPlace),Value.okWide P w .any base t v->
  DataW.Trod eH P w 0 (fun _=>true) true t v d ps->fits P t d->∃ x,wf x∧L (E0 w) (c x) v
def qo.Ro {α:Type} {enc:α->List C} {wf:α->Prop} {fs:Array Field} (ht:P.underlying t=some (.struct fs)) (h:qo P t enc wf):F1 P t (fun x=>.agg (enc x)) wf:=by
 intro H eH w base v d ps hv hd hf;simp only [Value.okWide,ht] at hv;obtain ⟨cs,rfl,_⟩:=hv;obtain ⟨fuel,hd⟩:=hd;obtain ⟨x,h1,h2,h3⟩:=h eH w fuel _ d ps hd hf;exact ⟨x,h1,.agg _ cs (by simpa [Value.cells] using h2.1) (fun i c y e1 e2=>h2.2 i c y e1 (by simpa [Value.cells] using e2)) (fun u hu=>h3 u (by simpa [Value.cells] using hu))⟩
def OpenArgs (P:Program) (ts:List TypeId) {α:Type} (c:α->List C) (wf:α->Prop):Prop:=
 ∀ {H:Type} (eH:TypeId × Value->H) (w:World) (base:Nat) (vs:List Value) (ds:List (DataW H)) (ps:List MemPlace),(∀ (j:Nat) t v,ts[j]?= some t->vs[j]?= some v->Value.okWide P w .any base t v)->
  DataW.TrodAll eH P w 0 (fun _=>true) true ts vs ds ps->(DataW.weightsEach P ts ds).all (·<=reachBytes)=true->∃ x,wf x∧LL (E0 w) (c x) vs
def OpenArgs.nil:OpenArgs P [] (fun _:Unit=>[]) (fun _=>True):=by
 intro H eH w base vs ds ps _ h _
 match vs,ds,h with
 | [],[],_=>exact ⟨(),trivial,LL.nil⟩
def OpenArgs.cons {ts:List TypeId} {α β:Type} {c:α->C} {wf:α->Prop} {cs:β->List C} {wf':β->Prop} (h:F1 P t c wf) (h':OpenArgs P ts cs wf'):
  OpenArgs P (t::ts) (fun x:α × β=>c x.1::cs x.2) (fun x=>wf x.1∧wf' x.2):=by
 intro H eH w base vs ds ps hv hd hf
 match vs,ds,hd with
 | v::vs,d::ds,⟨p,q,h1,h2,_⟩=>
  simp only [DataW.weightsEach,uu,dU] at hf;obtain ⟨a,a1,a2⟩:=h eH w base v d p (hv 0 t v rfl rfl) h1 hf.1;obtain ⟨b,b1,b2⟩:=h' eH w base vs ds q (fun j t' v' e1 e2=>hv (j+1) t' v' (aq e1) uY) h2 hf.2;exact ⟨(a,b),⟨a1,b1⟩,LL.cons a2 b2⟩
end
def Ic {P:Program} {H:Type} {eH:TypeId × Value->H} (hl:laidOutB P=true) {W W':World} {sp':Nat->Bool}:∀ {ts:List TypeId} {vs:List Value} {ds:List (DataW H)} {ps:List MemPlace},
  ts.all (fun t=>P.readableRec t && decide (t < P.types.size))=true->DataW.TrodAll eH P W 0 (fun _=>true) true ts vs ds ps->(∀ p ∈ ps,W.sameAt W' p)->(∀ p ∈ ps,sp' p.block=true)->DataW.TrodAll eH P W' 0 sp' true ts vs ds ps
 | [],[],[],ps,_,h,_,_=>h
 | t::ts,v::vs,d::ds,ps,hts,⟨p,q,h1,h2,e⟩,hsame,hs=>by
  subst e;simp only [rD,dU,gh] at hts;exact ⟨p,q,WideElems.Trod_stays hl hts.1.1 hts.1.2 h1 (fun x hx=>hsame x (by simp [hx])) (fun x hx=>hs x (by simp [hx])),Ic hl hts.2 h2 (fun x hx=>hsame x (by simp [hx])) (fun x hx=>hs x (by simp [hx])),rfl⟩
def NL {w w':World} {E E':Env} (g:Grow w E [] w' E' []):RowKit.Below w.heap.size w w':=
 ⟨g.os,g.tape,g.output,g.size,fun k hk=>g.frame k hk xg.none⟩
def IM {P:Program} {H:Type} {eH:TypeId × Value->H} {w:World} {b:Nat} {sp:Nat->Bool} {hd:Bool}:∀ {ts:List TypeId} {vs:List Value} {ds:List (DataW H)} {ps:List MemPlace},DataW.TrodAll eH P w b sp hd ts vs ds ps->ds.length=ts.length
 | [],[],[],_,_=>rfl
 | _::_,_::_,_::_,_,⟨_,_,_,h,_⟩=>by simp [IM h]
def law_close {P:Program} {f:FuncId} {fn:Func} {s:ChangeSpec} {H:Type} {eH:TypeId × Value->H} {W:World} {base:Nat} {args:Array Value} {ds gs:List (DataW H)} {before:List MemPlace} {tb:TypeId} {α:Type} {c:α->List C} {wf:α->Prop}
  (hl:laidOutB P=true) (hts:fn.params.toList.all (fun t=>P.readableRec t && decide (t < P.types.size))=true) (hres:fn.resultTypes= #[tb]) (htb:P.underlying tb=some .bool) (hvars:s.vars=[])
  (hspec:∀ ds:List (DataW H),ds.length=fn.params.toList.length->s.fn H (ds++[])={ results:=[.lit (.bool true)],args:=ds })
  (hval:∀ (j:Nat) t v,fn.params[j]?= some t->args[j]?= some v->Value.okWide P W .any base t v)
  (hW:DataW.Whole eH P fn.params.toList s.vars false W args.toList ds gs before)
  (hsz:(DataW.weightsEach P (fn.params.toList++s.plain.varTypes P) (ds++gs)).all (·<=reachBytes)=true)
  (hop:OpenArgs P fn.params.toList c wf) (hs:∀ x,wf x->zb P f [] (c x) (.v (.bool true)) []):
  Calls P f args W fun e W'=>∃ v,e=.returned v∧s.post eH P fn false true false false W args v W':=by
 have hW':=hW;obtain ⟨p,q,hA,hV,rfl,hfz,ff⟩:=hW;rw [hvars] at hV;obtain ⟨rfl,rfl⟩:=ChangeShapes.trodVars_none hV;have hvt:s.plain.varTypes P=[]:=by simp [DataSpec.varTypes,ChangeSpec.plain,hvars]
 rw [hvt] at hsz;simp only [rJ] at hsz;have ux:=hW'.lt;obtain ⟨x,hx,hL⟩:=hop eH W base args.toList ds p (fun j t v e1 e2=>hval j t v (aq e1) uY) hA hsz;refine (hs x hx W (E0 W) args (T3 W) hL).mono ?_;rintro e W' ⟨v,E',rfl,_,hv,g⟩;have hb:=NL g;obtain rfl:v=.bool true:=by cases hv;rfl
 have hlen:=IM hA;have hsp:=hspec ds hlen;refine ⟨_,rfl,ds,[],p++[],[],p,[],hW',?_,?_,?_,?_,fun h=>by cases h⟩
 ·rw [hsp,hres];exact ⟨[],[],RowKit.shut_bool htb _,rfl,rfl⟩
 ·rw [hsp];exact Ic hl hts hA (fun x hx=>hb.same (ux x (aq hx))) (fun x hx=>by simpa using ux x (aq hx))
 ·rw [hsp,hvars]
  rfl
 ·exact hb.frame _
end Go.Ab
namespace Go.Hy
open Go.Ab
abbrev u4:=List UInt8
abbrev I (n:Int):C:=.v (.int .i64 n)
abbrev U (n:Int):C:=.v (.int .u64 n)
abbrev Bo (b:Bool):C:=.v (.bool b)
abbrev Tx (s:u4):C:=.v (.string ⟨⟨s⟩⟩)
def encI (n:Int):List C:=[I n]
def jH (n:Int):List C:=[U n]
def vq (b:Bool):List C:=[Bo b]
def ql (s:u4):List C:=[Tx s]
abbrev lI (l:List Int):C:=.uv 0 1 (l.map encI)
abbrev lU (l:List Int):C:=.uv 0 1 (l.map jH)
abbrev lB (l:List Bool):C:=.uv 0 1 (l.map vq)
abbrev lT (l:List u4):C:=.uv 0 1 (l.map ql)
def i64 (n:Int):Prop:= -9223372036854775808<=n∧n<=9223372036854775807
def u64 (n:Int):Prop:=0<=n∧n<=18446744073709551615
instance (n:Int):Decidable (i64 n):=by unfold i64;infer_instance
instance (n:Int):Decidable (u64 n):=by unfold u64;infer_instance
structure eC where
 version:Int
 at_:Int
 gone:Bool
def xq (r:eC):List C:=[I r.version,I r.at_,Bo r.gone]
abbrev lR (l:List eC):C:=.uv 0 3 (l.map xq)
def eC.ok (r:eC):Prop:=i64 r.version∧i64 r.at_
structure eE where
 name:u4
 drain:Bool
 zg:Int
 closed:Bool
def qH (l:eE):List C:=[Tx l.name,Bo l.drain,I l.zg,Bo l.closed]
abbrev lL (l:List eE):C:=.uv 0 4 (l.map qH)
def eE.ok (l:eE):Prop:=l.name.length<=reachBytes∧i64 l.zg
structure En where
 head:Int
 next:List Int
 zg:Int
def zx (e:En):List C:=[U e.head,lI e.next,I e.zg]
abbrev lE (l:List En):C:=.uv 0 3 (l.map zx)
def En.ok (e:En):Prop:=u64 e.head∧((∀ x ∈ e.next,i64 x)∧e.next.length<=17592186043904)∧i64 e.zg
structure Gr where
 zt:Int
 ends : List En
def zE (g:Gr):List C:=[U g.zt,lE g.ends]
abbrev lG (l:List Gr):C:=.uv 0 2 (l.map zE)
structure eM where
 name:u4
 xH:Int
 xL:Int
 zL:List Bool
def j6 (c:eM):List C:=[Tx c.name,I c.xH,I c.xL,lB c.zL]
abbrev lC (l:List eM):C:=.uv 0 4 (l.map j6)
structure lb where
 listen:u4
 host:u4
 path:u4
 zi:u4
def wb (r:lb):List C:=[Tx r.listen,Tx r.host,Tx r.path,Tx r.zi]
abbrev lO (l:List lb):C:=.uv 0 4 (l.map wb)
structure eP where
 zd:List u4
 zP:List lb
 zk:List eM
def mf (c:eP):List C:=[lT c.zd,lO c.zP,lC c.zk]
structure iE where
 listen:Int
 host:u4
 path:u4
 zi:Int
def yw (r:iE):List C:=[I r.listen,Tx r.host,Tx r.path,I r.zi]
abbrev ic (l:List iE):C:=.uv 0 4 (l.map yw)
structure Sna where
 zd:List u4
 rules:List iE
 zk:List eM
def qK (s:Sna):List C:=[lT s.zd,ic s.rules,lC s.zk]
structure u3 where
 snap:Sna
 zm:List Gr
 qm:Bool
def zF (v:u3):List C:=qK v.snap++[lG v.zm,Bo v.qm]
abbrev lV (l:List u3):C:=.uv 0 5 (l.map zF)
structure Wor where
 zn:Int
 current:Int
 lock:Int
 pins:List Int
 ze:List u3
 zd:List eE
 counts:List (List Int)
 zr:List eC
def zN (r:List Int):List C:=[lU r]
abbrev eG (l:List (List Int)):C:=.uv 0 1 (l.map zN)
def zJ (w:Wor):List C:=[I w.zn,I w.current,I w.lock,lI w.pins,lV w.ze,lL w.zd,eG w.counts,lR w.zr]
structure eD where
 kind:Int
 listen:u4
 host:u4
 path:u4
 d0:Int
 d1:Int
 n:Int
 config:eP
def vb (o:eD):List C:=[I o.kind,Tx o.listen,Tx o.host,Tx o.path,I o.d0,I o.d1,I o.n]++mf o.config
abbrev lP (l:List eD):C:=.uv 0 10 (l.map vb)
structure mi where
 c0:Int
 c1:Int
 c2:Int
 c3:Int
 c4:Int
 c5:Int
def Ar (x:mi):List C:=[U x.c0,U x.c1,U x.c2,U x.c3,U x.c4,U x.c5]
structure ef where
 kind:Int
 version:Int
 zi:Int
 end_ : Int
 slot:Int
 listen:Int
 n:Int
 counts:mi
def xz (a:ef):List C:=[I a.kind,I a.version,I a.zi,I a.end_,I a.slot,I a.listen,I a.n]++Ar a.counts
abbrev lA (l:List ef):C:=.uv 0 13 (l.map xz)
structure uw where
 op:eD
 zf:Int
 pc:Int
 zn:Int
 version:Int
 listen:Int
 zi:Int
 end_ : Int
 other:Int
 slot:Int
 word:Int
 link:Int
 i:Int
 k:Int
 sum:Int
 done:Bool
 answer:ef
 counts:mi
def zD (m:uw):List C:=vb m.op++[I m.zf,I m.pc,I m.zn,I m.version,I m.listen,I m.zi,I m.end_,I m.other,I m.slot,U m.word,I m.link,I m.i,I m.k,I m.sum,Bo m.done]++xz m.answer++Ar m.counts
structure uz where
 zf:Int
 op:Int
 access:Int
 cell:Int
 version:Int
 qm:Bool
 value:Int
 jo:Bool
 qR:Bool
 done:Bool
 answer:ef
def zR (e:uz):List C:=[I e.zf,I e.op,I e.access,I e.cell,I e.version,Bo e.qm,I e.value,Bo e.jo,Bo e.qR,Bo e.done]++xz e.answer
abbrev fV (l:List uz):C:=.uv 0 23 (l.map zR)
structure Cal where
 zf:Int
 op:Int
 from_:Int
 qR:Int
 fj:Int
 answer:ef
def jV (c:Cal):List C:=[I c.zf,I c.op,I c.from_,I c.qR,I c.fj]++xz c.answer
abbrev At (l:List Cal):C:=.uv 0 18 (l.map jV)
structure eF where
 first:eP
 threads:List (List eD)
 zT:List Int
def xi (l:List eD):List C:=[lP l]
abbrev Bp (l:List (List eD)):C:=.uv 0 1 (l.map xi)
def qv (s:eF):List C:=mf s.first++[Bp s.threads,lI s.zT]
abbrev eh (w:Wor)(m:uw)(v:u3)(i:Nat):List (List C):=(w.ze.map zF).set m.version.toNat ((qK v.snap++[C.sl i [] 2 0 v.zm.length false,Bo v.qm]))
abbrev ed (m:uw)(v:u3)(g:Gr)(t:Int)(i:Nat):List (List C):=(v.zm.map zE).set m.zi.toNat ([U t,C.sl i [] 3 0 g.ends.length false])
abbrev u7 (m:uw)(g:Gr)(e:En)(h:Int)(i:Nat)(a:Int):List (List C):=(g.ends.map zx).set m.end_.toNat ([U h,C.sl i [] 1 0 e.next.length false,I a])
abbrev eR (w:Wor)(i:Nat):List C:=[I w.zn,I w.current,I w.lock,lI w.pins,.sl i [] 5 0 w.ze.length false,lL w.zd,eG w.counts,lR w.zr]
end Go.Hy
namespace Go.Ab
abbrev tn:=zb Go.Proofs.Tryz.prog
end Go.Ab
