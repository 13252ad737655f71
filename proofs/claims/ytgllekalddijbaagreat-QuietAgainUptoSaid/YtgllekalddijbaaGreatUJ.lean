import Derived.SizedLaws
import Derived.ProofKit
import Derived.Carry
import Derived.Test.YtgllekalddijbaaGreatUC
import Derived.Test.YtgllekalddijbaaGreatUA
set_option linter.unusedVariables false
set_option linter.unusedSimpArgs false
set_option linter.unusedSectionVars false
set_option maxRecDepth 100000
set_option maxHeartbeats 4000000
namespace Go.Ab
def yY (ρ:Nat->Nat):Nat->C->C
 | 0,_=>.za
 | k+1,c=>match c with
  | .ref id hops sz i j=>.ref (ρ id) hops sz i j
  | .sl id hops sz lo len full=>.sl (ρ id) hops sz lo len full
  | .mp id=>.mp (ρ id)
  | .gl id sz rows=>.gl (ρ id) sz rows
  | .ifc t c=>.ifc t (yY ρ k c)
  | .rc r=>.rc r
  | .agg cs=>.agg (cs.map (yY ρ k))
  | .tup cs=>.tup (cs.map (yY ρ k))
  | .fn f first caps=>.fn f (first.map (yY ρ k)) (caps.map (yY ρ k))
  | .v x=>.v x
  | .lst o sz rows=>.lst o sz rows
  | .qv cells=>.qv cells
  | .un=>.un
  | .za=>.za
structure zkb (E E':Env) (ρ:Nat->Nat):Prop where
 n:∀ id,id < E.n->ρ id < E'.n
 β:∀ id hops,id < E.n->E'.β (ρ id) hops=E.β id hops
 κ:∀ id hops,id < E.n->E'.κ (ρ id) hops=E.κ id hops
 G:∀ id k,id < E.n->E'.G (ρ id) k=E.G id k
 St:E'.St=E.St
theorem zkb.shut {E E':Env} {ρ:Nat->Nat} (h:zkb E E' ρ):E.shut.le E'.shut:=
 ⟨Nat.le_refl _,fun id hops hi=>absurd hi (Nat.not_lt_zero _),fun id hops hi=>absurd hi (Nat.not_lt_zero _),fun b o u hu=>by show E'.St b o=_;rw [h.St];exact hu,fun id _ _ hi=>absurd hi (Nat.not_lt_zero _)⟩
theorem L.zms {E E':Env} {ρ:Nat->Nat} (h:zkb E E' ρ):∀ (k:Nat) {c:C} {y:Value},L E c y->L E' (yY ρ k c) y:=by
 intro k
 induction k with
 | zero=>intro c y _;exact .za y
 | succ k ih=>
  intro c y hl
  cases hl with
  | v x hx=>exact .v _ hx
  | lst o sz rows b off cap us ho hc hsz hst hL=>
   exact .lst o sz rows b off cap us ho hc hsz (fun i r k c e1 e2=>by rw [h.St];exact hst i r k c e1 e2) (fun i r k c e1 e2=>(hL i r k c e1 e2).mono h.shut)
  | qP o sz ho a=>exact .qP o sz ho a
  | qv cells b off us hst hL=>exact .qv cells b off us (fun k c e1=>by rw [h.St];exact hst k c e1) (fun k c e1=>(hL k c e1).mono h.shut)
  | ref id hops sz i j hn=>
   have:=L.ref (E:=E') (ρ id) hops sz i j (h.n id hn)
   rw [h.β id hops hn] at this
   exact this
  | sl id hops sz lo len full cap hn hlen hf hf'=>
   have:=L.sl (E:=E') (ρ id) hops sz lo len full cap (h.n id hn) hlen hf (fun e=>by rw [h.κ id hops hn];exact hf' e)
   rw [h.β id hops hn] at this
   exact this
  | mp id hn=>
   have:=L.mp (E:=E') (ρ id) (h.n id hn)
   rw [h.β id [] hn] at this
   exact this
  | agg cs ys h1 h2 h3=>
   have:=LL.ren (f:=yY ρ k) (E':=E') (cs:=cs) (ys:=ys.toList) ⟨by simpa using h1,fun i c y e1 e2=>h2 i c y e1 (by simpa using e2)⟩ (fun c y hl=>ih hl)
   exact .agg _ ys (by simpa using this.1) (fun i c y e1 e2=>this.2 i c y e1 (by simpa using e2)) h3
  | tup cs ys h1 h2=>
   have:=LL.ren (f:=yY ρ k) (E':=E') (cs:=cs) (ys:=ys.toList) ⟨by simpa using h1,fun i c y e1 e2=>h2 i c y e1 (by simpa using e2)⟩ (fun c y hl=>ih hl)
   exact .tup _ ys (by simpa using this.1) (fun i c y e1 e2=>this.2 i c y e1 (by simpa using e2))
  | fn f first caps ys zs h1 h2 h3 h4=>
   have t1:=LL.ren (f:=yY ρ k) (E':=E') (cs:=first) (ys:=ys.toList) ⟨by simpa using h1,fun i c y e1 e2=>h3 i c y e1 (by simpa using e2)⟩ (fun c y hl=>ih hl)
   have t2:=LL.ren (f:=yY ρ k) (E':=E') (cs:=caps) (ys:=zs.toList) ⟨by simpa using h2,fun i c y e1 e2=>h4 i c y e1 (by simpa using e2)⟩ (fun c y hl=>ih hl)
   exact .fn f _ _ ys zs (by simpa using t1.1) (by simpa using t2.1) (fun i c y e1 e2=>t1.2 i c y e1 (by simpa using e2)) (fun i c y e1 e2=>t2.2 i c y e1 (by simpa using e2))
  | un=>exact .un
  | za y=>exact .za y
  | gl id sz rows y hn hg hl=>exact .gl (ρ id) sz rows y (h.n id hn) (by rw [h.G id _ hn];exact hg) (hl.mono h.shut)
  | ifc t c y hl=>exact .ifc t _ y (ih hl)
theorem zdb (ρ:Nat->Nat) (k:Nat) {c:C} (h:zw c=true):zw (yY ρ k c)=true:=by
 cases k with
 | zero=>rfl
 | succ k=>cases c <;> first | exact h | rfl
def yH (ρ:Nat->Nat) (ob:Ob):Ob:=
 match ob with
 | ⟨kind,ty,sz,rows,fz⟩=>match kind with
  | 2=>⟨2,ty,sz,rows,fz⟩
  | 4=>⟨4,ty,sz,rows,fz⟩
  | kd=>⟨kd,ty,sz,rows.map fun r=>r.map (yY ρ 9),fz⟩
theorem qF (ρ:Nat->Nat) (ob:Ob):(yH ρ ob).kind=ob.kind∧(yH ρ ob).ty=ob.ty∧(yH ρ ob).sz=ob.sz∧(yH ρ ob).rows.length=ob.rows.length∧(yH ρ ob).fz=ob.fz:=by
 obtain ⟨kind,ty,sz,rows,fz⟩:=ob
 unfold yH
 dsimp only
 split <;> simp
theorem zdZ {ρ:Nat->Nat} {ob:Ob} (h:ob.kind=4):yH ρ ob=ob:=by
 obtain ⟨kind,ty,sz,rows,fz⟩:=ob
 cases h
 rfl
def qI (sel:List Nat) (n id:Nat):Nat:=match sel[id]? with
 | some x=>x
 | none=>n+(id - sel.length)
def qA (sel:List Nat) (n i:Nat):Option Nat:=match posOf sel 0 i with
 | some j=>some j
 | none=>if i < n then none else some (sel.length+(i - n))
def ki (sel:List Nat) (H':ze) (ρ:Nat->Nat):Nat->ze->ze
 | _,[]=>[]
 | i,ob::K=>(match posOf sel 0 i with
  | some j=>match H'[j]? with
   | some o=>yH ρ o
   | none=>dead
  | none=>ob)::ki sel H' ρ (i+1) K
def vZ (sel:List Nat) (K H':ze):ze:=ki sel H' (qI sel K.length) 0 K++(H'.drop sel.length).map (yH (qI sel K.length))
theorem zap (sel:List Nat) (H':ze) (ρ:Nat->Nat):∀ (i:Nat) (K:ze),(ki sel H' ρ i K).length=K.length
 | _,[]=>rfl
 | i,_::K=>by simp [ki,zap sel H' ρ (i+1) K]
theorem zdf (sel:List Nat) (H':ze) (ρ:Nat->Nat):∀ (k:Nat) (K:ze) (i:Nat),(ki sel H' ρ k K)[i]?= (K[i]?).map fun ob=>match posOf sel 0 (k+i) with
  | some j=>match H'[j]? with
   | some o=>yH ρ o
   | none=>dead
  | none=>ob
 | _,[],i=>by simp [ki]
 | k,ob::K,0=>by simp [ki]
 | k,ob::K,i+1=>by
  rw [ki,List.getElem?_cons_succ,List.getElem?_cons_succ,zdf sel H' ρ (k+1) K i,show k+1+i=k+(i+1) from by omega]
theorem kB:∀ {sel:List Nat} {k id:Nat},posOf sel k id=none->∀ j:Nat,sel[j]?≠some id
 | [],k,id,_,j,h=>by simp at h
 | x::xs,k,id,h,j,e=>by
  unfold posOf at h
  split at h
  ·cases h
  ·rename_i hx
   cases j with
   | zero=>simp at e;exact hx (by simp [e])
   | succ j=>exact kB h j (by simpa using e)
theorem zgM {sel:List Nat} {id j:Nat} (hnd:xB sel=true) (h:sel[j]?= some id):posOf sel 0 id=some j:=by
 cases e:posOf sel 0 id with
 | none=>exact absurd h (kB e j)
 | some i=>
  obtain ⟨_,h2⟩:=q9 e
  rw [Nat.sub_zero] at h2
  rw [xv hnd i j id h2 h]
section
variable {w w':World} {E E0:Env} {K H':ze} {sel:List Nat}
structure Fr (w:World) (E:Env) (K:ze) (sel:List Nat) (w':World) (E0:Env) (H':ze):Prop where
 hh:zH w E K
 zD:sel.all (fun id=>Nat.blt id K.length)=true
 hnd:xB sel=true
 hfl:jd K=true
 h0:zH w' E0 H'
 g:Grow w (E.ren sel) (jX sel K) w' E0 H'
 hf:jd H'=true
def frE (E:Env) (sel:List Nat) (n m:Nat) (E0:Env):Env where
 n:=n+(m - sel.length)
 β i hops:=match qA sel n i with
  | some j=>E0.β j hops
  | none=>E.β i hops
 κ i hops:=match qA sel n i with
  | some j=>E0.κ j hops
  | none=>E.κ i hops
 St:=E0.St
 G i k:=match qA sel n i with
  | some j=>E0.G j k
  | none=>E.G i k
namespace Fr
variable (f:Fr w E K sel w' E0 H')
include f
theorem le:sel.length<=H'.length:=by
 have:=f.g.le.n
 rw [f.h0.n] at this
 exact this
theorem lt {i id:Nat} (h:sel[i]?= some id):id < K.length:=by
 have:=List.all_eq_true.1 f.zD id (List.mem_of_getElem? h)
 simpa [Nat.blt_eq] using this
theorem zad {j:Nat} (hj:j < H'.length):qA sel K.length (qI sel K.length j)=some j:=by
 unfold qI qA
 cases h:sel[j]? with
 | some x=>simp only;rw [zgM f.hnd h]
 | none=>
  simp only
  have h1:sel.length<=j:=List.getElem?_eq_none_iff.1 h
  have h2:posOf sel 0 (K.length+(j - sel.length))=none:=by
   cases e:posOf sel 0 (K.length+(j - sel.length)) with
   | none=>rfl
   | some i=>
    obtain ⟨_,h2⟩:=q9 e
    rw [Nat.sub_zero] at h2
    have:=f.lt h2
    omega
  rw [h2]
  simp only
  rw [if_neg (by omega)]
  congr 1
  omega
theorem zkd {j:Nat} (hj:j < H'.length):qI sel K.length j < K.length+(H'.length - sel.length):=by
 have hle:=f.le
 unfold qI
 split
 ·rename_i x h
  have:=f.lt h
  omega
 ·rename_i h
  have h1:sel.length<=j:=List.getElem?_eq_none_iff.1 h
  omega
theorem xJ {i j:Nat} (h:qA sel K.length i=some j):qI sel K.length j=i:=by
 unfold qA at h
 split at h
 ·rename_i j' e
  cases h
  obtain ⟨_,h2⟩:=q9 e
  rw [Nat.sub_zero] at h2
  unfold qI
  rw [h2]
 ·split at h
  ·cases h
  ·cases h
   unfold qI
   rw [List.getElem?_eq_none (by omega)]
   simp only
   omega
theorem zae {i:Nat} (h:qA sel K.length i=none):i < K.length∧∀ j:Nat,sel[j]?≠some i:=by
 unfold qA at h
 split at h
 ·cases h
 ·rename_i e
  split at h
  ·rename_i h1;exact ⟨h1,kB e⟩
  ·cases h
theorem len:(vZ sel K H').length=K.length+(H'.length - sel.length):=by
 unfold vZ
 rw [List.length_append,zap,List.length_map,List.length_drop]
theorem get {i:Nat} {ob:Ob} (h:(vZ sel K H')[i]?= some ob):(qA sel K.length i=none∧K[i]?= some ob)∨∃ j o,qA sel K.length i=some j∧H'[j]?= some o∧ob=yH (qI sel K.length) o:=by
 have hle:=f.le
 unfold vZ at h
 rw [List.getElem?_append,zap] at h
 split at h
 ·rename_i hi
  rw [zdf,Nat.zero_add] at h
  rw [List.getElem?_eq_getElem hi] at h
  simp only [Option.map_some,Option.some.injEq] at h
  unfold qA
  cases e:posOf sel 0 i with
  | none=>rw [e] at h;left;exact ⟨by simp [hi],by rw [List.getElem?_eq_getElem hi,<- h]⟩
  | some j=>
   rw [e] at h
   right
   obtain ⟨_,h2⟩:=q9 e
   rw [Nat.sub_zero] at h2
   have hj:j < H'.length:=Nat.lt_of_lt_of_le (List.getElem?_eq_some_iff.1 h2).1 hle
   simp only [List.getElem?_eq_getElem hj] at h
   exact ⟨j,H'[j],rfl,List.getElem?_eq_getElem hj,h.symm⟩
 ·rename_i hi
  right
  have e:posOf sel 0 i=none:=by
   cases e:posOf sel 0 i with
   | none=>rfl
   | some j=>
    obtain ⟨_,h2⟩:=q9 e
    rw [Nat.sub_zero] at h2
    exact absurd (f.lt h2) hi
  rw [List.getElem?_map,List.getElem?_drop] at h
  unfold qA
  rw [e]
  simp only
  rw [if_neg hi]
  cases hx:H'[sel.length+(i - K.length)]? with
  | none=>rw [hx] at h;cases h
  | some o=>rw [hx] at h;cases h;exact ⟨_,o,rfl,hx,rfl⟩
theorem map:zkb E0 (frE E sel K.length H'.length E0) (qI sel K.length) where
 n id hi:=f.zkd (by rw [<- f.h0.n];exact hi)
 β id hops hi:=by simp only [frE,f.zad (by rw [<- f.h0.n];exact hi)]
 κ id hops hi:=by simp only [frE,f.zad (by rw [<- f.h0.n];exact hi)]
 G id k hi:=by simp only [frE,f.zad (by rw [<- f.h0.n];exact hi)]
 St:=rfl
theorem elt {i j:Nat} (h:qA sel K.length i=some j) (hi:i < E.n):j < sel.length∧(sel[j]?).getD 0=i:=by
 rw [f.hh.n] at hi
 unfold qA at h
 split at h
 ·rename_i j' e
  cases h
  obtain ⟨_,h2⟩:=q9 e
  rw [Nat.sub_zero] at h2
  exact ⟨(List.getElem?_eq_some_iff.1 h2).1,by rw [h2];rfl⟩
 ·rw [if_pos hi] at h;cases h
theorem ele:E.le (frE E sel K.length H'.length E0) where
 n:=by rw [f.hh.n];exact Nat.le_add_right _ _
 β id hops hi:=by
  unfold frE
  dsimp only
  split
  ·rename_i j e
   obtain ⟨h1,h2⟩:=f.elt e hi
   rw [f.g.le.β j hops h1]
   simp [Env.ren,h2]
  ·rfl
 κ id hops hi:=by
  unfold frE
  dsimp only
  split
  ·rename_i j e
   obtain ⟨h1,h2⟩:=f.elt e hi
   rw [f.g.le.κ j hops h1]
   simp [Env.ren,h2]
  ·rfl
 St b o u hu:=f.g.le.St b o u hu
 G id k u hi hu:=by
  unfold frE
  dsimp only
  split
  ·rename_i j e
   obtain ⟨h1,h2⟩:=f.elt e hi
   exact f.g.le.G j k u h1 (by simp only [Env.ren,h2];exact hu)
  ·exact hu
theorem β_un {i:Nat} (h:qA sel K.length i=none) (hops:List Hop):(frE E sel K.length H'.length E0).β i hops=E.β i hops:=by simp only [frE,h]
theorem κ_un {i:Nat} (h:qA sel K.length i=none) (hops:List Hop):(frE E sel K.length H'.length E0).κ i hops=E.κ i hops:=by simp only [frE,h]
theorem zj9 {i:Nat} (h:qA sel K.length i=none) (k:Nat):(frE E sel K.length H'.length E0).G i k=E.G i k:=by simp only [frE,h]
theorem β_in {i j:Nat} (h:qA sel K.length i=some j) (hops:List Hop):(frE E sel K.length H'.length E0).β i hops=E0.β j hops:=by simp only [frE,h]
theorem κ_in {i j:Nat} (h:qA sel K.length i=some j) (hops:List Hop):(frE E sel K.length H'.length E0).κ i hops=E0.κ j hops:=by simp only [frE,h]
theorem zj8 {i j:Nat} (h:qA sel K.length i=some j) (k:Nat):(frE E sel K.length H'.length E0).G i k=E0.G j k:=by simp only [frE,h]
theorem zd9 {b:Nat} (h:qz (E.ren sel) (jX sel K) b):qz E K b:=by
 rcases h with hb | ⟨i,hb | hb⟩
 ·exact .inl (hb.ren f.zD f.hfl)
 ·obtain ⟨id,_,h3⟩:=hb.ren f.zD
  exact .inr ⟨id,.inl h3⟩
 ·obtain ⟨id,_,h3⟩:=hb.ren f.zD
  exact .inr ⟨id,.inr h3⟩
theorem zaq {id b:Nat} (h:qh K id b):∃ o,w.heap[b]?= some o∧wh o=true:=by
 obtain ⟨ob,o,t,h1,h2,h3,rfl⟩:=h
 obtain ⟨h4,_⟩:=f.hh.gro.lop id ob o t h1 h2 h3
 exact ⟨o,h4⟩
theorem zc5 {id b:Nat} (h:zO E K id b):∃ cur e,w.heap[b]?= some (.cells cur e (0,0)):=by
 have h':=h
 obtain ⟨ob,cap,h1,_⟩:=h'
 obtain ⟨cur,cap,_,h2,_⟩:=f.hh.gro.blk id b ob h h1
 exact ⟨cur,_,h2⟩
theorem zau {id:Nat} {hops:List Hop} {x:Nat × List (List C)} (hid:qA sel K.length id=none) (hx:zy K id hops=some x):E.β id hops < w.heap.size∧¬qz (E.ren sel) (jX sel K) (E.β id hops):=by
 have hn:=(f.zae hid).2
 obtain ⟨cur,e,hc⟩:=f.hh.base.kT ⟨id,hops,x,hx,rfl⟩
 refine ⟨(Array.getElem?_eq_some_iff.1 hc).1,?_⟩
 rintro (⟨i,hops',⟨sz,rows⟩,hx',he⟩ | ⟨i,hb | hb⟩)
 ·obtain ⟨id2,ob,rows0,h3,h4,h5,_⟩:=xL f.zD f.hfl hx'
  simp only [Env.ren,h3,Option.getD_some] at he
  obtain ⟨rfl,rfl⟩:=f.hh.base.inj id2 hops' id hops _ _ h5 hx he
  exact hn i h3
 ·obtain ⟨id2,_,h3⟩:=hb.ren f.zD
  exact f.hh.gro.sep id2 _ h3 ⟨id,hops,x,hx,rfl⟩
 ·obtain ⟨id2,_,h3⟩:=hb.ren f.zD
  obtain ⟨o,h4,h5⟩:=f.zaq h3
  rw [hc] at h4
  cases h4
  cases h5
theorem zcq {id b:Nat} (hid:qA sel K.length id=none) (hg:zO E K id b):b < w.heap.size∧¬qz (E.ren sel) (jX sel K) b:=by
 have hn:=(f.zae hid).2
 obtain ⟨cur,e,hc⟩:=f.zc5 hg
 refine ⟨(Array.getElem?_eq_some_iff.1 hc).1,?_⟩
 rintro (hb | ⟨i,hb | hb⟩)
 ·exact f.hh.gro.sep id b hg (hb.ren f.zD f.hfl)
 ·obtain ⟨id2,e2,h3⟩:=hb.ren f.zD
  obtain rfl:=f.hh.gro.inj id2 id b h3 hg
  exact hn i e2
 ·obtain ⟨id2,_,h3⟩:=hb.ren f.zD
  obtain ⟨o,h4,h5⟩:=f.zaq h3
  rw [hc] at h4
  cases h4
  cases h5
theorem zg2 {id b:Nat} (hid:qA sel K.length id=none) (hg:qh K id b):b < w.heap.size∧¬qz (E.ren sel) (jX sel K) b:=by
 have hn:=(f.zae hid).2
 obtain ⟨o,hc,hf⟩:=f.zaq hg
 refine ⟨(Array.getElem?_eq_some_iff.1 hc).1,?_⟩
 rintro (hb | ⟨i,hb | hb⟩)
 ·obtain ⟨cur,e,h4⟩:=f.hh.base.kT (hb.ren f.zD f.hfl)
  rw [hc] at h4
  cases h4
  cases hf
 ·obtain ⟨id2,e2,h3⟩:=hb.ren f.zD
  obtain ⟨cur,e,h4⟩:=f.zc5 h3
  rw [hc] at h4
  cases h4
  cases hf
 ·obtain ⟨id2,e2,h3⟩:=hb.ren f.zD
  obtain rfl:=f.hh.gro.yg id2 id b h3 hg
  exact hn i e2
theorem zbq {b:Nat} (h:b < w.heap.size∧¬qz (E.ren sel) (jX sel K) b):w'.heap[b]?= w.heap[b]?:=f.g.frame b h.1 h.2
theorem vG {b:Nat} (h:b < w.heap.size∧¬qz (E.ren sel) (jX sel K) b) (ho:qz E0 H' b):False:=by
 rcases f.g.own b ho with h1 | h1
 ·have:=h.1;omega
 ·exact h.2 h1
theorem zlf {b o:Nat} {u:Value} (h:b < w.heap.size∧¬qz (E.ren sel) (jX sel K) b) (hu:E0.St b o=some u):E.St b o=some u:=by
 rcases f.g.qs b o u hu with h1 | h1 | h1
 ·exact h1
 ·have:=h.1;omega
 ·exact absurd h1 h.2
theorem yB {i:Nat} {hops:List Hop} {sz:Nat} {rows:List (List C)} (h:zy (vZ sel K H') i hops=some (sz,rows)):
  (qA sel K.length i=none∧zy K i hops=some (sz,rows))∨
  ∃ j ob rows0,qA sel K.length i=some j∧H'[j]?= some ob∧zy H' j hops=some (sz,rows0)∧((ob.kind=2∧rows=rows0)∨(ob.kind=1∧hops=[]∧rows=rows0.map (fun r=>r.map (yY (qI sel K.length) 9))∧∀ r ∈ rows0,∀ c ∈ r,zw c=true)):=by
 obtain ⟨ob',ho',hk',hg'⟩:=z6 h
 rcases f.get ho' with ⟨h1,h2⟩ | ⟨j,ob,h1,h2,rfl⟩
 ·left
  refine ⟨h1,?_⟩
  unfold zy
  rw [h2]
  simp only
  rw [if_pos hk']
  exact hg'
 ·right
  obtain ⟨kind,ty,sz0,rows0,fz⟩:=ob
  rw [(qF _ _).1] at hk'
  rcases hk' with hk | hk
  ·have hk:kind=1:=hk
   subst hk
   have hno:∀ r ∈ rows0,∀ c ∈ r,zw c=true:=by
    have:=List.all_eq_true.1 f.hf _ (List.mem_of_getElem? h2)
    dsimp only at this
    simpa [List.all_eq_true] using this
   have hg2:xb sz0 (rows0.map fun r=>r.map (yY (qI sel K.length) 9)) hops=some (sz,rows):=hg'
   obtain ⟨rfl,e⟩:=xN (fun i k c hc=>by
    unfold cellAt at hc
    rw [List.getElem?_map] at hc
    cases hx:rows0[i]? with
    | none=>rw [hx] at hc;cases hc
    | some r=>
     rw [hx] at hc
     simp only [Option.map_some,Option.bind_some,List.getElem?_map] at hc
     cases hy:r[k]? with
     | none=>rw [hy] at hc;cases hc
     | some c0=>
      rw [hy] at hc
      cases hc
      exact zdb _ 9 (hno r (List.mem_of_getElem? hx) c0 (List.mem_of_getElem? hy))) hg2
   cases e
   exact ⟨j,_,rows0,h1,h2,by unfold zy;rw [h2];simp [zS],.inr ⟨rfl,rfl,rfl,hno⟩⟩
  ·have hk:kind=2:=hk
   subst hk
   exact ⟨j,_,rows,h1,h2,by unfold zy;rw [h2];exact (show xb sz0 rows0 hops=_ from hg'),.inl ⟨rfl,rfl⟩⟩
theorem zml:zB w' (frE E sel K.length H'.length E0) (vZ sel K H') where
 n:=by rw [f.len];rfl
 blk i ob' hops sz rows hob' hx:=by
  rcases f.yB hx with ⟨h1,h2⟩ | ⟨j,ob,rows0,h1,h2,h3,h4⟩
  ·rcases f.get hob' with ⟨_,h3⟩ | ⟨j,_,h3,_⟩
   rotate_left
   ·rw [h1] at h3;cases h3
   have hb:=f.hh.base.blk i ob' hops sz rows h3 h2
   obtain ⟨cur,e,hg,hcs,hcell⟩:=hb.blk
   have hu:=f.zau h1 h2
   refine ⟨by rw [f.κ_un h1];exact hb.len,hb.row,cur,e,by rw [f.β_un h1,f.zbq hu];exact hg,by rw [f.κ_un h1];exact hcs,?_⟩
   intro i' k c hc
   obtain ⟨u,hu,ho⟩:=hcell i' k c hc
   refine ⟨u,hu,?_⟩
   unfold zV at ho ⊢
   split at ho
   ·rw [f.β_un h1,f.κ_un h1];exact ho
   ·exact ⟨ho.1.mono (f.ele.at _),ho.2⟩
  ·rcases f.get hob' with ⟨h5,_⟩ | ⟨j2,ob2,h5,h6,rfl⟩
   ·rw [h1] at h5;cases h5
   rw [h1] at h5
   cases h5
   rw [h2] at h6
   cases h6
   have hb:=f.h0.base.blk j ob hops sz rows0 h2 h3
   obtain ⟨cur,e,hg,hcs,hcell⟩:=hb.blk
   rw [(qF _ ob).1]
   rcases h4 with ⟨hk,rfl⟩ | ⟨hk,rfl,rfl,hno⟩
   ·refine ⟨by rw [f.κ_in h1];exact hb.len,hb.row,cur,e,by rw [f.β_in h1];exact hg,by rw [f.κ_in h1];exact hcs,?_⟩
    intro i' k c hc
    obtain ⟨u,hu,ho⟩:=hcell i' k c hc
    refine ⟨u,hu,?_⟩
    unfold zV at ho ⊢
    split at ho
    ·rw [f.β_in h1,f.κ_in h1];exact ho
    ·refine ⟨?_,ho.2⟩
     have h5:=ho.1
     simp only [Env.at,hk,if_true] at h5 ⊢
     exact h5.mono f.map.shut
   ·refine ⟨by rw [f.κ_in h1];simpa using hb.len,?_,cur,e,by rw [f.β_in h1];exact hg,by rw [f.κ_in h1];exact hcs,?_⟩
    ·intro r hr
     obtain ⟨r0,h5,rfl⟩:=List.mem_map.1 hr
     simpa using hb.row r0 h5
    ·intro i' k c hc
     unfold cellAt at hc
     rw [List.getElem?_map] at hc
     cases hx1:rows0[i']? with
     | none=>rw [hx1] at hc;cases hc
     | some r=>
      rw [hx1] at hc
      simp only [Option.map_some,Option.bind_some,List.getElem?_map] at hc
      cases hy:r[k]? with
      | none=>rw [hy] at hc;cases hc
      | some c0=>
       rw [hy] at hc
       cases hc
       obtain ⟨u,hu,ho⟩:=hcell i' k c0 (by unfold cellAt;rw [hx1];exact hy)
       have hn0:=hno r (List.mem_of_getElem? hx1) c0 (List.mem_of_getElem? hy)
       rw [zV.loose hn0] at ho
       refine ⟨u,hu,(zV.loose (zdb _ 9 hn0)).2 ⟨?_,ho.2⟩⟩
       have h5:=ho.1
       have hk2:¬ob.kind=2:=by rw [hk];decide
       simp only [Env.at,if_neg hk2] at h5 ⊢
       exact h5.zms f.map 9
 inj i hops i' hops' x y hx hy he:=by
  rcases f.yB (sz:=x.1) (rows:=x.2) hx with ⟨h1,h2⟩ | ⟨j,ob,rows0,h1,_,h3,_⟩ <;> rcases f.yB (sz:=y.1) (rows:=y.2) hy with ⟨k1,k2⟩ | ⟨j',ob',rows0',k1,_,k3,_⟩
  ·rw [f.β_un h1,f.β_un k1] at he
   exact f.hh.base.inj i hops i' hops' _ _ h2 k2 he
  ·rw [f.β_un h1,f.β_in k1] at he
   exact (f.vG (f.zau h1 h2) (.inl ⟨j',hops',_,k3,he.symm⟩)).elim
  ·rw [f.β_in h1,f.β_un k1] at he
   exact (f.vG (f.zau k1 k2) (.inl ⟨j,hops,_,h3,he⟩)).elim
  ·rw [f.β_in h1,f.β_in k1] at he
   obtain ⟨rfl,rfl⟩:=f.h0.base.inj j hops j' hops' _ _ h3 k3 he
   exact ⟨(f.xJ h1).symm.trans (f.xJ k1),rfl⟩
 zG:=f.h0.base.zG
 sep i hops x o u hx hu:=by
  rcases f.yB (sz:=x.1) (rows:=x.2) hx with ⟨h1,h2⟩ | ⟨j,ob,rows0,h1,h2,h3,_⟩
  ·rw [f.β_un h1] at hu
   obtain ⟨e1,ob,e2,e3⟩:=f.hh.base.sep i hops _ o u h2 (f.zlf (f.zau h1 h2) hu)
   refine ⟨e1,?_⟩
   obtain ⟨ob',ho',_⟩:=z6 hx
   refine ⟨ob',ho',?_⟩
   rcases f.get ho' with ⟨_,k2⟩ | ⟨j,_,k1,_⟩
   ·rw [e2] at k2;cases k2;exact e3
   ·rw [h1] at k1;cases k1
  ·rw [f.β_in h1] at hu
   obtain ⟨e1,ob2,e2,e3⟩:=f.h0.base.sep j hops _ o u h3 hu
   refine ⟨e1,?_⟩
   obtain ⟨ob',ho',_⟩:=z6 hx
   refine ⟨ob',ho',?_⟩
   rcases f.get ho' with ⟨k1,_⟩ | ⟨j2,ob3,k1,k2,rfl⟩
   ·rw [h1] at k1;cases k1
   ·rw [h1] at k1
    cases k1
    rw [e2] at k2
    cases k2
    obtain ⟨l1,l2,l3,l4,l5⟩:=qF (qI sel K.length) ob2
    rw [l3,l5]
    exact e3
 ty i ob' hob' hk:=by
  rcases f.get hob' with ⟨h1,h2⟩ | ⟨j,ob,h1,h2,rfl⟩
  ·obtain ⟨cur,hc⟩:=f.hh.base.ty i ob' h2 hk
   refine ⟨cur,?_⟩
   have hx:∃ x,zy K i []=some x:=⟨(ob'.sz,ob'.rows),by unfold zy;rw [h2];simp [hk,zS]⟩
   obtain ⟨x,hx⟩:=hx
   rw [f.β_un h1,f.zbq (f.zau h1 hx)]
   exact hc
  ·obtain ⟨l1,l2,l3,l4,l5⟩:=qF (qI sel K.length) ob
   obtain ⟨cur,hc⟩:=f.h0.base.ty j ob h2 (by rw [<- l1];exact hk)
   exact ⟨cur,by rw [f.β_in h1,l2];exact hc⟩
 fz i ob' hob':=by
  rcases f.get hob' with ⟨h1,h2⟩ | ⟨j,ob,h1,h2,rfl⟩
  ·exact f.hh.base.fz i ob' h2
  ·obtain ⟨l1,l2,l3,l4,l5⟩:=qF (qI sel K.length) ob
   rw [l4,l5]
   exact f.h0.base.fz j ob h2
theorem yE {i b:Nat} (h:zO (frE E sel K.length H'.length E0) (vZ sel K H') i b):(qA sel K.length i=none∧zO E K i b)∨∃ j,qA sel K.length i=some j∧zO E0 H' j b:=by
 obtain ⟨ob',cap,h1,h2,h3,h4⟩:=h
 rcases f.get h1 with ⟨e1,e2⟩ | ⟨j,ob,e1,e2,rfl⟩
 ·left
  rw [f.zj9 e1] at h3
  exact ⟨e1,ob',cap,e2,h2,h3,h4⟩
 ·right
  obtain ⟨l1,l2,l3,l4,l5⟩:=qF (qI sel K.length) ob
  rw [f.zj8 e1,l4] at h3
  rw [l4] at h4
  exact ⟨j,e1,ob,cap,e2,by rw [<- l1];exact h2,h3,h4⟩
theorem zcd {i b:Nat} (h:qh (vZ sel K H') i b):(qA sel K.length i=none∧qh K i b)∨∃ j,qA sel K.length i=some j∧qh H' j b:=by
 obtain ⟨ob',o,t,h1,h2,h3,h4⟩:=h
 rcases f.get h1 with ⟨e1,e2⟩ | ⟨j,ob,e1,e2,rfl⟩
 ·exact .inl ⟨e1,ob',o,t,e2,h2,h3,h4⟩
 ·have hk:ob.kind=4:=by rw [<- (qF (qI sel K.length) ob).1];exact h2
  rw [zdZ hk] at h3 h4
  exact .inr ⟨j,e1,ob,o,t,e2,hk,h3,h4⟩
theorem zde {b:Nat} (h:z5 (frE E sel K.length H'.length E0) (vZ sel K H') b):(∃ id hops x,qA sel K.length id=none∧zy K id hops=some x∧E.β id hops=b)∨z5 E0 H' b:=by
 obtain ⟨i,hops,⟨sz,rows⟩,hx,rfl⟩:=h
 rcases f.yB hx with ⟨h1,h2⟩ | ⟨j,ob,rows0,h1,_,h3,_⟩
 ·exact .inl ⟨i,hops,_,h1,h2,(f.β_un h1 hops).symm⟩
 ·exact .inr ⟨j,hops,_,h3,(f.β_in h1 hops).symm⟩
theorem gro:Gro w' (frE E sel K.length H'.length E0) (vZ sel K H') where
 val i ob' h1 h2:=by
  rcases f.get h1 with ⟨e1,e2⟩ | ⟨j,ob,e1,e2,rfl⟩
  ·rw [f.zj9 e1];exact f.hh.gro.val i ob' e2 h2
  ·obtain ⟨l1,l2,l3,l4,l5⟩:=qF (qI sel K.length) ob
   rw [f.zj8 e1,l4]
   exact f.h0.gro.val j ob e2 (by rw [<- l1];exact h2)
 blk i b ob' h1 h2:=by
  rcases f.yE h1 with ⟨k1,k2⟩ | ⟨j,k1,k2⟩ <;> rcases f.get h2 with ⟨e1,e2⟩ | ⟨j',ob,e1,e2,rfl⟩
  ·rw [f.zj9 k1,f.zbq (f.zcq k1 k2)]
   exact f.hh.gro.blk i b ob' k2 e2
  ·rw [k1] at e1;cases e1
  ·rw [k1] at e1;cases e1
  ·rw [k1] at e1
   cases e1
   obtain ⟨l1,l2,l3,l4,l5⟩:=qF (qI sel K.length) ob
   rw [f.zj8 k1,l2,l3,l4]
   exact f.h0.gro.blk j b ob k2 e2
 sep i b h1 h2:=by
  rcases f.yE h1 with ⟨k1,k2⟩ | ⟨j,k1,k2⟩ <;> rcases f.zde h2 with ⟨id,hops,x,e1,e2,rfl⟩ | e2
  ·exact f.hh.gro.sep i _ k2 ⟨id,hops,x,e2,rfl⟩
  ·exact f.vG (f.zcq k1 k2) (.inl e2)
  ·exact f.vG (f.zau e1 e2) (.inr ⟨j,.inl k2⟩)
  ·exact f.h0.gro.sep j b k2 e2
 inj i i' b h1 h2:=by
  rcases f.yE h1 with ⟨k1,k2⟩ | ⟨j,k1,k2⟩ <;> rcases f.yE h2 with ⟨e1,e2⟩ | ⟨j',e1,e2⟩
  ·exact f.hh.gro.inj i i' b k2 e2
  ·exact (f.vG (f.zcq k1 k2) (.inr ⟨j',.inl e2⟩)).elim
  ·exact (f.vG (f.zcq e1 e2) (.inr ⟨j,.inl k2⟩)).elim
  ·obtain rfl:=f.h0.gro.inj j j' b k2 e2
   exact (f.xJ k1).symm.trans (f.xJ e1)
 st i b ob' o u h1 h2 h3:=by
  rcases f.yE h1 with ⟨k1,k2⟩ | ⟨j,k1,k2⟩ <;> rcases f.get h2 with ⟨e1,e2⟩ | ⟨j',ob,e1,e2,rfl⟩
  ·exact f.hh.gro.st i b ob' o u k2 e2 (f.zlf (f.zcq k1 k2) h3)
  ·rw [k1] at e1;cases e1
  ·rw [k1] at e1;cases e1
  ·rw [k1] at e1
   cases e1
   obtain ⟨l1,l2,l3,l4,l5⟩:=qF (qI sel K.length) ob
   rw [l3,l4]
   exact f.h0.gro.st j b ob o u k2 e2 h3
 top i ob' k u h1 h2 h3:=by
  rcases f.get h1 with ⟨e1,e2⟩ | ⟨j,ob,e1,e2,rfl⟩
  ·rw [f.zj9 e1] at h3;exact f.hh.gro.top i ob' k u e2 h2 h3
  ·obtain ⟨l1,l2,l3,l4,l5⟩:=qF (qI sel K.length) ob
   rw [f.zj8 e1] at h3
   rw [l4]
   exact f.h0.gro.top j ob k u e2 (by rw [<- l1];exact h2) h3
 lop i ob' o t h1 h2 h3:=by
  rcases f.get h1 with ⟨e1,e2⟩ | ⟨j,ob,e1,e2,rfl⟩
  ·obtain ⟨⟨p1,p2⟩,p3⟩:=f.hh.gro.lop i ob' o t e2 h2 h3
   rw [f.zbq (f.zg2 e1 ⟨ob',o,t,e2,h2,h3,rfl⟩)]
   exact ⟨⟨p1,p2⟩,p3.mono f.ele⟩
  ·have hk4:ob.kind=4:=by rw [<- (qF (qI sel K.length) ob).1];exact h2
   rw [zdZ hk4] at h3
   have:=List.all_eq_true.1 f.hf ob (List.mem_of_getElem? e2)
   rw [hk4,h3.2,h3.1] at this
   obtain ⟨p1,p2⟩:=f.h0.gro.lop j ob o t e2 hk4 h3
   have ht:t.all vN=true:=by simpa using this
   rw [zdZ hk4]
   exact ⟨p1,p2.map fun ys hl=>hl.closed ht ⟨Nat.zero_le _,fun _ _ h=>absurd h (Nat.not_lt_zero _),fun _ _ h=>absurd h (Nat.not_lt_zero _),fun _ _ _ h=>h,fun _ _ _ h=>absurd h (Nat.not_lt_zero _)⟩⟩
 yg i i' b h1 h2:=by
  rcases f.zcd h1 with ⟨k1,k2⟩ | ⟨j,k1,k2⟩ <;> rcases f.zcd h2 with ⟨e1,e2⟩ | ⟨j',e1,e2⟩
  ·exact f.hh.gro.yg i i' b k2 e2
  ·exact (f.vG (f.zg2 k1 k2) (.inr ⟨j',.inr e2⟩)).elim
  ·exact (f.vG (f.zg2 e1 e2) (.inr ⟨j,.inr k2⟩)).elim
  ·obtain rfl:=f.h0.gro.yg j j' b k2 e2
   exact (f.xJ k1).symm.trans (f.xJ e1)
theorem grow:Grow w E K w' (frE E sel K.length H'.length E0) (vZ sel K H') where
 le:=f.ele
 os:=f.g.os
 tape:=f.g.tape
 output:=f.g.output
 size:=f.g.size
 frame k h1 h2:=f.g.frame k h1 fun h=>h2 (f.zd9 h)
 qs b o u hu:=by
  rcases f.g.qs b o u hu with h1 | h1 | h1
  ·exact .inl h1
  ·exact .inr (.inl h1)
  ·exact .inr (.inr (f.zd9 h1))
 own b hb:=by
  have fin:qz E0 H' b->w.heap.size<=b∨qz E K b:=fun h=>(f.g.own b h).imp_right f.zd9
  rcases hb with hb | ⟨i,hb | hb⟩
  ·rcases f.zde hb with ⟨id,hops,x,_,e2,e3⟩ | h
   ·exact .inr (.inl ⟨id,hops,x,e2,e3⟩)
   ·exact fin (.inl h)
  ·rcases f.yE hb with ⟨_,k2⟩ | ⟨j,_,k2⟩
   ·exact .inr (.inr ⟨i,.inl k2⟩)
   ·exact fin (.inr ⟨j,.inl k2⟩)
  ·rcases f.zcd hb with ⟨_,k2⟩ | ⟨j,_,k2⟩
   ·exact .inr (.inr ⟨i,.inr k2⟩)
   ·exact fin (.inr ⟨j,.inr k2⟩)
end Fr
variable {P:Program} {f:FuncId}
theorem qe.part (sel:List Nat) {K H0:ze} {args args0:List C} {R:C->ze->Prop} (h:qe P f H0 args0 R) (hR:∀ r H',R r H'->jd H'=true)
  (hH:jX sel K=H0) (ha:args.map (xg sel 9)=args0) (zD:sel.all (fun id=>Nat.blt id K.length)=true) (hnd:xB sel=true) (hfl:jd K=true):
  qe P f K args fun r K'=>∃ r0 H',R r0 H'∧r=yY (qI sel K.length) 9 r0∧K'=vZ sel K H':=fun w E vs hh hl=>by
 subst hH ha
 refine (h w (E.ren sel) vs (hh.ren sel zD hnd hfl) (hl.ren fun c y hl=>hl.ren sel 9)).mono fun e w' ⟨r,H',v,E0,h1,h2,h3,h4,g⟩=>?_
 have fr:Fr w E K sel w' E0 H':=⟨hh,zD,hnd,hfl,h3,g,hR r H' h1⟩
 exact ⟨_,_,v,_,⟨r,H',h1,rfl,rfl⟩,h2,⟨fr.zml,fr.gro⟩,h4.zms fr.map 9,fr.grow⟩
theorem zb.part (sel:List Nat) {K H0 H':ze} {args args0:List C} {r:C} (h:zb P f H0 args0 r H') (hR:jd H'=true)
  (hH:jX sel K=H0) (ha:args.map (xg sel 9)=args0) (zD:sel.all (fun id=>Nat.blt id K.length)=true) (hnd:xB sel=true) (hfl:jd K=true):
  zb P f K args (yY (qI sel K.length) 9 r) (vZ sel K H'):=fun w E vs hh hl=>by
 refine ((h.toR (R:=fun x X=>x=r∧X=H') ⟨rfl,rfl⟩).part sel (fun x X e=>e.2 ▸ hR) hH ha zD hnd hfl w E vs hh hl).mono fun e w' ⟨r1,K',v,E',⟨r0,H1,⟨e1,e2⟩,e3,e4⟩,h2⟩=>?_
 subst e1 e2 e3 e4
 exact ⟨v,E',h2⟩
theorem zq (sel:List Nat) {K H0 H':ze} {args args0:List C} {r:C} (h:zb P f H0 args0 r H') (hR:jd H'=true)
  (hH:jX sel K=H0) (ha:args.map (xg sel 9)=args0) (zD:sel.all (fun id=>Nat.blt id K.length)=true) (hnd:xB sel=true) (hfl:jd K=true) {k:C->ze->Prop}
  (hk:zbP (vZ sel K H') fun X=>okB (yY (qI sel K.length) 9 r) fun c=>k c X):∃ r' H2,zb P f K args r' H2∧okB r' fun c=>k c H2:=
 ⟨_,_,h.part sel hR hH ha zD hnd hfl,yl (k:=fun X=>okB (yY (qI sel K.length) 9 r) fun c=>k c X) hk⟩
theorem zir {sel:List Nat} {K K':ze} (h:∀ id ∈ sel,K'[id]?= K[id]?):jX sel K'=jX sel K:=by
 unfold jX
 refine List.map_congr_left fun id hid=>?_
 rw [h id hid]
theorem zcb {sel:List Nat} {H':ze} {ρ:Nat->Nat}:∀ (K:ze) (k:Nat),(∀ (j id:Nat) (o:Ob),sel[j]?= some id->H'[j]?= some o->id < k+K.length->k<=id->K[id - k]?= some (yH ρ o))->(sel.length<=H'.length)->ki sel H' ρ k K=K
 | [],k,h,hl=>rfl
 | ob::K,k,h,hl=>by
  rw [ki]
  congr 1
  ·split
   ·rename_i j hj
    have hs:sel[j]?= some k:=by simpa using (q9 hj).2
    split
    ·rename_i o ho
     have:=h j k o hs ho (by simp) (Nat.le_refl _)
     simpa using this.symm
    ·rename_i ho
     have h1:=(List.getElem?_eq_some_iff.1 hs).1
     rw [List.getElem?_eq_none_iff] at ho
     omega
   ·rfl
  ·refine zcb K (k+1) (fun j id o h1 h2 h3 h4=>?_) hl
   have:=h j id o h1 h2 (by simp;omega) (by omega)
   rwa [show id - k=(id - (k+1))+1 from by omega,List.getElem?_cons_succ] at this
theorem zb.blind (sel:List Nat) {K H0:ze} {T:Eag} {args args0:List C} {r:C} (h:zb P f H0 args0 r H0) (hR:jd H0=true)
  (hH:jX sel K=H0) (ha:args.map (xg sel 9)=args0) (zD:sel.all (fun id=>Nat.blt id K.length)=true) (hnd:xB sel=true) (hfl:T.flat=true) (hk:sel.all (zb1 T.keep)=true)
  (hb:∀ n,(sel.map fun id=>yH (qI sel n) (y5 sel ((K[id]?).getD dead)))=sel.map fun id=>(K[id]?).getD dead) (hr:∀ n,yY (qI sel n) 9 r=r):∀ H2,XC T K H2->zb P f H2 args r H2:=fun H2 hx=>by
 have same:∀ id ∈ sel,H2[id]?= K[id]?:=fun id hid=>hx.1 id (List.all_eq_true.1 hk id hid)
 have hH2:jX sel H2=H0:=(zir same).trans hH
 have hlt:∀ id ∈ sel,∃ o,K[id]?= some o∧H2[id]?= some o:=fun id hid=>by
  have h1:=List.all_eq_true.1 zD id hid
  have h1:id < K.length:=Nat.le_of_ble_eq_true h1
  exact ⟨K[id],by simp [h1],by rw [same id hid];simp [h1]⟩
 have h2:=h.part sel (K:=H2) (args:=args) hR hH2 ha (List.all_eq_true.2 fun id hid=>by
  obtain ⟨o,_,h3⟩:=hlt id hid
  exact Nat.ble_eq_true_of_le (List.getElem?_eq_some_iff.1 h3).1) hnd (hx.2 hfl)
 rw [hr] at h2
 have hlen:H0.length=sel.length:=by rw [<- hH];simp [jX]
 have e:vZ sel H2 H0=H2:=by
  unfold vZ
  rw [List.drop_eq_nil_of_le (by omega),List.map_nil,List.append_nil]
  refine zcb H2 0 (fun j id o h3 h4 h5 _=>?_) (by omega)
  obtain ⟨o1,h6,h7⟩:=hlt id (List.mem_of_getElem? h3)
  have h8:=congrArg (·[j]?) (hb H2.length)
  simp only [List.getElem?_map,h3,Option.map_some,h6,Option.getD_some] at h8
  rw [<- hH] at h4
  simp only [jX,List.getElem?_map,h3,Option.map_some,h6,Option.getD_some] at h4
  cases h4
  simp only [Nat.sub_zero]
  rw [h7]
  exact h8.symm
 rw [e] at h2
 exact h2
end
end Go.Ab
namespace Go.Ab
theorem zan {ob:Ob} (h:∀ r ∈ ob.rows,∀ c ∈ r,zw c=true) {i k:Nat} {c:C} (hc:cellAt ob.rows i k=some c):zw c=true:=by
 unfold cellAt at hc
 cases hx:ob.rows[i]? with
 | none=>rw [hx] at hc;cases hc
 | some r=>rw [hx] at hc;exact h r (List.mem_of_getElem? hx) c (List.mem_of_getElem? hc)
theorem vR {H:ze} {id:Nat} {ob:Ob} (hob:H[id]?= some ob) (hk:ob.kind=1∨ob.kind=2):zy H id []=some (ob.sz,ob.rows):=by
 unfold zy
 rw [hob]
 simp [hk,zS]
theorem yo {H:ze} {id:Nat} {ob ob':Ob} (hob:H[id]?= some ob) (hk:ob.kind=1∨ob.kind=2) (hno':∀ r ∈ ob'.rows,∀ c ∈ r,zw c=true) {id':Nat} {p:List Hop} {x:Nat × List (List C)}
  (h:zy (H.set id ob') id' p=some x):(id'≠id∧zy H id' p=some x)∨(id'=id∧p=[]∧x=(ob'.sz,ob'.rows)∧zy H id []=some (ob.sz,ob.rows)):=by
 obtain ⟨ob2,ho,hk2,hg⟩:=z6 h
 by_cases hi:id'=id
 ·subst hi
  right
  rw [List.getElem?_set,if_pos rfl,if_pos (List.getElem?_eq_some_iff.1 hob).1] at ho
  cases ho
  obtain ⟨rfl,rfl⟩:=xN (fun i k c hc=>zan hno' hc) hg
  exact ⟨rfl,rfl,rfl,vR hob hk⟩
 ·left
  refine ⟨hi,?_⟩
  rw [List.getElem?_set,if_neg (Ne.symm hi)] at ho
  unfold zy
  rw [ho]
  simp only [hk2,if_true]
  exact hg
theorem zB.vC {w:World} {E:Env} {H:ze} (h:zB w E H) {id:Nat} {ob ob':Ob} (hob:H[id]?= some ob) (hk:ob.kind=1∨ob.kind=2) (hk':ob'.kind=1∨ob'.kind=2)
  (hty:ob'.kind=2->∃ cur,w.heap[E.β id []]?= some (.cells cur ob'.ty (0,0))) (hsz:ob'.sz=ob.sz) (hfz:ob'.fz=ob.fz) (hlen:ob'.rows.length<=ob.rows.length) (hfz0:ob'.fz<=ob'.rows.length)
  (hrow:∀ r ∈ ob'.rows,r.length=ob.sz) (hno:∀ r ∈ ob.rows,∀ c ∈ r,zw c=true) (hno':∀ r ∈ ob'.rows,∀ c ∈ r,zw c=true)
  (hc:∀ (i k:Nat) c c' u,cellAt ob.rows i k=some c->cellAt ob'.rows i k=some c'->L (E.at ob.kind) c u->w.cell? ⟨E.β id [],i * ob.sz+k,none⟩=some u->L (E.at ob'.kind) c' u):zB w E (H.set id ob') where
 n:=by simpa using h.n
 blk id' ob2 p sz' rows' hob2 hx:=by
  rcases yo hob hk hno' hx with ⟨h1,h2⟩ | ⟨rfl,rfl,h1,h2⟩
  ·rw [List.getElem?_set,if_neg (Ne.symm h1)] at hob2
   exact h.blk id' ob2 p sz' rows' hob2 h2
  ·rw [List.getElem?_set,if_pos rfl,if_pos (List.getElem?_eq_some_iff.1 hob).1] at hob2
   cases hob2
   cases h1
   have hb:=h.blk _ _ _ _ _ hob h2
   rw [hsz]
   refine ⟨Nat.le_trans hlen hb.len,hrow,?_⟩
   obtain ⟨cur,e,h3,h4,h5⟩:=hb.blk
   refine ⟨cur,e,h3,h4,?_⟩
   intro i k c' hc'
   obtain ⟨hi,hkk⟩:=vL hrow hc'
   obtain ⟨c,hc0⟩:=yj hb.row (Nat.lt_of_lt_of_le hi hlen) hkk
   obtain ⟨u,hu,ho⟩:=h5 i k c hc0
   refine ⟨u,hu,?_⟩
   rw [zV.loose (zan hno hc0)] at ho
   rw [zV.loose (zan hno' hc')]
   exact ⟨hc i k c c' u hc0 hc' ho.1 (by unfold World.cell?;rw [h3];simpa using hu),ho.2⟩
 inj i p j q x y hx hy he:=by
  have key:∀ i p x,zy (H.set id ob') i p=some x->∃ x',zy H i p=some x':=fun i p x hx=>by
   rcases yo hob hk hno' hx with ⟨h1,h2⟩ | ⟨rfl,rfl,h1,h2⟩
   ·exact ⟨x,h2⟩
   ·exact ⟨_,h2⟩
  obtain ⟨x',hx'⟩:=key i p x hx
  obtain ⟨y',hy'⟩:=key j q y hy
  exact h.inj i p j q x' y' hx' hy' he
 zG:=h.zG
 sep i p x o u hx hu:=by
  rcases yo hob hk hno' hx with ⟨h1,h2⟩ | ⟨rfl,rfl,h1,h2⟩
  ·obtain ⟨e1,ob2,e2,e3⟩:=h.sep i p x o u h2 hu
   exact ⟨e1,ob2,by rw [List.getElem?_set,if_neg (Ne.symm h1)];exact e2,e3⟩
  ·obtain ⟨e1,ob2,e2,e3⟩:=h.sep _ [] _ o u h2 hu
   rw [hob] at e2
   cases e2
   exact ⟨rfl,ob',by rw [List.getElem?_set,if_pos rfl,if_pos (List.getElem?_eq_some_iff.1 hob).1],by rw [hfz,hsz];exact e3⟩
 ty i ob2 ho hk2:=by
  rw [List.getElem?_set] at ho
  split at ho
  ·rename_i e
   subst e
   split at ho
   ·cases ho;exact hty hk2
   ·cases ho
  ·exact h.ty i ob2 ho hk2
 fz i ob2 ho:=by
  rw [List.getElem?_set] at ho
  split at ho
  ·split at ho
   ·cases ho;exact hfz0
   ·cases ho
  ·exact h.fz i ob2 ho
theorem zB.zcf {w:World} {E:Env} {H:ze} (h:zB w E H) {id:Nat} {ob ob':Ob} (hob:H[id]?= some ob) (hk:ob.kind=1∨ob.kind=2) (hk':ob'.kind=1∨ob'.kind=2)
  (hty:ob'.kind=2->∃ cur,w.heap[E.β id []]?= some (.cells cur ob'.ty (0,0))) (hsz:ob'.sz=ob.sz) (hfz:ob'.fz=ob.fz) (hlen:ob'.rows.length=ob.rows.length)
  (hrow:∀ r ∈ ob'.rows,r.length=ob.sz) (hno:∀ r ∈ ob.rows,∀ c ∈ r,zw c=true) (hno':∀ r ∈ ob'.rows,∀ c ∈ r,zw c=true)
  (hc:∀ (i k:Nat) c c' u,cellAt ob.rows i k=some c->cellAt ob'.rows i k=some c'->L (E.at ob.kind) c u->w.cell? ⟨E.β id [],i * ob.sz+k,none⟩=some u->L (E.at ob'.kind) c' u):zB w E (H.set id ob'):=
 h.vC hob hk hk' hty hsz hfz (Nat.le_of_eq hlen) (by rw [hfz,hlen];exact h.fz id _ hob) hrow hno hno' hc
theorem zH.vC {w:World} {E:Env} {H:ze} (h:zH w E H) {id:Nat} {ob ob':Ob} (hob:H[id]?= some ob) (hk:ob.kind=1∨ob.kind=2) (hk':ob'.kind=1∨ob'.kind=2)
  (hty:ob'.kind=2->∃ cur,w.heap[E.β id []]?= some (.cells cur ob'.ty (0,0))) (hsz:ob'.sz=ob.sz) (hfz:ob'.fz=ob.fz) (hlen:ob'.rows.length<=ob.rows.length) (hfz0:ob'.fz<=ob'.rows.length)
  (hrow:∀ r ∈ ob'.rows,r.length=ob.sz) (hno:∀ r ∈ ob.rows,∀ c ∈ r,zw c=true) (hno':∀ r ∈ ob'.rows,∀ c ∈ r,zw c=true)
  (hc:∀ (i k:Nat) c c' u,cellAt ob.rows i k=some c->cellAt ob'.rows i k=some c'->L (E.at ob.kind) c u->w.cell? ⟨E.β id [],i * ob.sz+k,none⟩=some u->L (E.at ob'.kind) c' u):zH w E (H.set id ob')∧Grow w E H w E (H.set id ob'):=by
 have hR:=h.base.vC hob hk hk' hty hsz hfz hlen hfz0 hrow hno hno' hc
 have hG:zL w E H w E (H.set id ob'):=⟨Env.le.refl E,fun _ _ _=>rfl,rfl,rfl,rfl,Nat.le_refl _,fun _ _ _=>rfl,fun _ _ _ h=>.inl h,fun b ⟨i,p,x,hx,he⟩=>by
  rcases yo hob hk hno' hx with ⟨h1,h2⟩ | ⟨rfl,rfl,h1,h2⟩
  ·exact .inr ⟨i,p,x,h2,he⟩
  ·exact .inr ⟨_,[],_,h2,he⟩⟩
 have hk4:=qj.zmG (ob':=ob') hob (by rcases hk with h | h <;> rw [h] <;> decide) (by rcases hk' with h | h <;> rw [h] <;> decide)
 exact ⟨⟨hR,Gro.step h hG hk4⟩,hG.up h hk4⟩
theorem zH.zcf {w:World} {E:Env} {H:ze} (h:zH w E H) {id:Nat} {ob ob':Ob} (hob:H[id]?= some ob) (hk:ob.kind=1∨ob.kind=2) (hk':ob'.kind=1∨ob'.kind=2)
  (hty:ob'.kind=2->∃ cur,w.heap[E.β id []]?= some (.cells cur ob'.ty (0,0))) (hsz:ob'.sz=ob.sz) (hfz:ob'.fz=ob.fz) (hlen:ob'.rows.length=ob.rows.length)
  (hrow:∀ r ∈ ob'.rows,r.length=ob.sz) (hno:∀ r ∈ ob.rows,∀ c ∈ r,zw c=true) (hno':∀ r ∈ ob'.rows,∀ c ∈ r,zw c=true)
  (hc:∀ (i k:Nat) c c' u,cellAt ob.rows i k=some c->cellAt ob'.rows i k=some c'->L (E.at ob.kind) c u->w.cell? ⟨E.β id [],i * ob.sz+k,none⟩=some u->L (E.at ob'.kind) c' u):zH w E (H.set id ob')∧Grow w E H w E (H.set id ob'):=
 h.vC hob hk hk' hty hsz hfz (Nat.le_of_eq hlen) (by rw [hfz,hlen];exact h.base.fz id _ hob) hrow hno hno' hc
theorem zH.rowsOf {w:World} {E:Env} {H:ze} (h:zH w E H) {id:Nat} {ob:Ob} (hob:H[id]?= some ob) (hk:ob.kind=1∨ob.kind=2):∀ r ∈ ob.rows,r.length=ob.sz:=(h.base.blk _ _ _ _ _ hob (vR hob hk)).row
section
variable {B:Nat} {s:S}
theorem zl.zmm (id:Nat) {ty sz:Nat} {rows:List (List C)} (hob:s.H[id]?= some ⟨2,ty,sz,rows,0⟩) (hno:∀ r ∈ rows,∀ c ∈ r,zw c=true):zl B s ⟨s.tmps,s.H.set id ⟨1,0,sz,rows,0⟩⟩:=fun m w E a hs=>by
 have hrow:=hs.heap.rowsOf hob (.inr rfl)
 obtain ⟨hR,g⟩:=hs.heap.zcf hob (.inr rfl) (ob':=⟨1,0,sz,rows,0⟩) (.inl rfl) (fun h=>by cases h) rfl rfl rfl hrow hno hno fun i k c c' u e1 e2 hl _=>by
  rw [e1] at e2
  cases e2
  exact hl.mono (by show (E.at 2).le (E.at 1);unfold Env.at;exact E.wI)
 exact ⟨E,⟨hR,hs.tmps,hs.defers,by simpa using hs.base⟩,g.toB (by rw [hs.heap.n];exact hs.base)⟩
theorem zH.zhj {w:World} {E:Env} {H:ze} (hh:zH w E H) {id sz len ty kd:Nat} {full:Bool} {rows:List (List C)} {y:Value} (hl:L E (.sl id [] sz 0 len full) y) (hob:H[id]?= some ⟨kd,ty,sz,rows,0⟩) (hk:kd=1∨kd=2) (hlen:len=rows.length)
  (hsh:∀ r ∈ rows,∀ c ∈ r,jz c=true∧zw c=true):
  ∃ E1,zH w E1 (H.set id ⟨1,0,sz,rows,rows.length⟩)∧L E1 (.lst 0 sz rows) y∧Grow w E H w E1 (H.set id ⟨1,0,sz,rows,rows.length⟩):=by
 have hno:∀ r ∈ rows,∀ c ∈ r,zw c=true:=fun r h c hc=>(hsh r h c hc).2
 have hrow:=hh.rowsOf hob hk
 obtain ⟨cur,e,h3,h4,h5⟩:=(hh.base.blk _ _ _ _ _ hob (vR hob hk)).blk
 obtain ⟨hR1,g1⟩:=hh.zcf hob hk (ob':=⟨2,e,sz,rows,0⟩) (.inr rfl) (fun _=>⟨cur,h3⟩) rfl rfl rfl hrow hno hno fun i k c c' u e1 e2 hl _=>by
  rw [e1] at e2
  cases e2
  unfold cellAt at e1
  cases hx:rows[i]? with
  | none=>rw [hx] at e1;cases e1
  | some r=>
   rw [hx] at e1
   have hs:=(hsh r (List.mem_of_getElem? hx) c (List.mem_of_getElem? e1)).1
   exact (hl.mono (E.zkY kd)).xn hs
 have hlt:id < H.length:=(List.getElem?_eq_some_iff.1 hob).1
 obtain ⟨E1,hR2,hl2,g2⟩:=hR1.zaK hl (by rw [List.getElem?_set,if_pos rfl,if_pos hlt]) hlen hno
 rw [List.set_set] at hR2 g2
 obtain ⟨hR3,g3⟩:=hR2.zcf (id:=id) (ob:=⟨2,e,sz,rows,rows.length⟩) (by rw [List.getElem?_set,if_pos rfl,if_pos hlt]) (.inr rfl) (ob':=⟨1,0,sz,rows,rows.length⟩) (.inl rfl) (fun h=>by cases h) rfl rfl rfl hrow hno hno fun i k c c' u e1 e2 hl _=>by
  rw [e1] at e2
  cases e2
  exact hl.mono (by show (E1.at 2).le (E1.at 1);unfold Env.at;exact E1.wI)
 rw [List.set_set] at hR3 g3
 refine ⟨E1,hR3,?_,(g1.trans g2).trans g3⟩
 cases full
 ·exact hl2
 ·exact WC.share 1 sz rows E1 y hl2
theorem zl.jY (vid i k:Nat) {id sz len ty kd vty vsz:Nat} {full:Bool} {r:List C} {rows vrows:List (List C)} (hv:s.H[vid]?= some ⟨1,vty,vsz,vrows,0⟩) (hr:vrows[i]?= some r) (hk:r[k]?= some (.sl id [] sz 0 len full)) (hob:s.H[id]?= some ⟨kd,ty,sz,rows,0⟩)
  (hkd:kd=1∨kd=2) (hne:(vid == id)=false) (hlen:len=rows.length) (hsh:∀ r ∈ rows,∀ c ∈ r,jz c=true∧zw c=true) (hno:∀ r ∈ vrows,∀ c ∈ r,zw c=true):
  zl B s ⟨s.tmps,(s.H.set id ⟨1,0,sz,rows,rows.length⟩).set vid ⟨1,vty,vsz,vrows.set i (r.set k (.lst 0 sz rows)),0⟩⟩:=fun m w E a hs=>by
 have hne:vid≠id:=by simpa using hne
 obtain ⟨cur,e,h3,h4,h5⟩:=(hs.heap.base.blk _ _ _ _ _ hv (vR hv (.inl rfl))).blk
 have hrow:=hs.heap.rowsOf hv (.inl rfl)
 obtain ⟨u,hu,ho⟩:=h5 i k _ (show cellAt vrows i k=some (.sl id [] sz 0 len full) by unfold cellAt;rw [hr];exact hk)
 rw [zV.loose rfl] at ho
 have hl:L E (.sl id [] sz 0 len full) u:=by simpa [Env.at] using ho.1
 obtain ⟨E1,hh1,hl1,g1⟩:=hs.heap.zhj hl hob hkd hlen hsh
 have hob1:(s.H.set id ⟨1,0,sz,rows,rows.length⟩)[vid]?= some ⟨1,vty,vsz,vrows,0⟩:=by rw [List.getElem?_set,if_neg (Ne.symm hne)];exact hv
 have hβ:E1.β vid []=E.β vid []:=g1.le.β vid [] (by rw [hs.heap.n];exact (List.getElem?_eq_some_iff.1 hv).1)
 have hcu:w.cell? ⟨E1.β vid [],i * vsz+k,none⟩=some u:=by
  unfold World.cell?
  rw [hβ,h3]
  simpa using hu
 have hin:=List.mem_of_getElem? hr
 have hset:∀ q ∈ vrows.set i (r.set k (.lst 0 sz rows)),q ∈ vrows∨q=r.set k (.lst 0 sz rows):=fun q hq=>List.mem_or_eq_of_mem_set hq
 obtain ⟨hR,g2⟩:=hh1.zcf hob1 (.inl rfl) (ob':=⟨1,vty,vsz,vrows.set i (r.set k (.lst 0 sz rows)),0⟩) (.inl rfl) (fun h=>by cases h) rfl rfl (by simp) (fun q hq=>by
   rcases hset q hq with h | rfl
   ·exact hrow q h
   ·simpa using hrow r hin) hno (fun q hq c hc=>by
   rcases hset q hq with h | rfl
   ·exact hno q h c hc
   ·rcases List.mem_or_eq_of_mem_set hc with h | rfl
    ·exact hno r hin c h
    ·rfl) fun i' k' c c' v e1 e2 hl' hv'=>by
  have hat:∀ X:Env,X.at 1=X:=fun X=>by simp [Env.at]
  rw [hat] at hl' ⊢
  unfold cellAt at e1 e2
  rw [List.getElem?_set] at e2
  split at e2
  ·rename_i e
   subst e
   split at e2
   ·simp only [Option.bind_some] at e2
    rw [hr] at e1
    simp only [Option.bind_some] at e1
    rw [List.getElem?_set] at e2
    split at e2
    ·rename_i e
     subst e
     split at e2
     ·cases e2
      rw [hcu] at hv'
      cases hv'
      exact hl1
     ·cases e2
    ·rw [e1] at e2
     cases e2
     exact hl'
   ·cases e2
  ·rw [e1] at e2
   cases e2
   exact hl'
 have g:=g1.trans g2
 exact ⟨E1,⟨hR,hs.tmps.mono g.le,hs.defers.grow hs.heap g,by have:=hs.base;simp;omega⟩,g.toB (by rw [hs.heap.n];exact hs.base)⟩
theorem zl.wi (t:Nat) {id sz len ty kd:Nat} {full:Bool} {rows:List (List C)} (ht:s.tmps[t]?= some (.sl id [] sz 0 len full)) (hob:s.H[id]?= some ⟨kd,ty,sz,rows,0⟩) (hkd:kd=1∨kd=2) (hlen:len=rows.length)
  (hsh:∀ r ∈ rows,∀ c ∈ r,jz c=true∧zw c=true):zl B s ⟨s.tmps.set t (.lst 0 sz rows),s.H.set id ⟨1,0,sz,rows,rows.length⟩⟩:=fun m w E a hs=>by
 obtain ⟨y,hy,hl⟩:=hs.tmps.get ht
 obtain ⟨E1,hh1,hl1,g⟩:=hs.heap.zhj hl hob hkd hlen hsh
 have h2:=(hs.tmps.mono g.le).set hl1 t
 have e:a.tmps.toList.set t y=a.tmps.toList:=x6 hy
 rw [e] at h2
 exact ⟨E1,⟨hh1,h2,hs.defers.grow hs.heap g,by have:=hs.base;simpa using this⟩,g.toB (by rw [hs.heap.n];exact hs.base)⟩
theorem zl.shrink (id:Nat) {ty sz:Nat} {rows rows':List (List C)} (hob:s.H[id]?= some ⟨2,ty,sz,rows++rows',0⟩) (hno:∀ r ∈ rows++rows',∀ c ∈ r,zw c=true):zl B s ⟨s.tmps,s.H.set id ⟨2,ty,sz,rows,0⟩⟩:=fun m w E a hs=>by
 have hrow:=hs.heap.rowsOf hob (.inr rfl)
 obtain ⟨hR,g⟩:=hs.heap.vC hob (.inr rfl) (ob':=⟨2,ty,sz,rows,0⟩) (.inr rfl) (fun _=>hs.heap.base.ty id ⟨2,ty,sz,rows++rows',0⟩ hob rfl) rfl rfl (by simp) (Nat.zero_le _) (fun r hr=>hrow r (List.mem_append_left _ hr)) hno (fun r hr=>hno r (List.mem_append_left _ hr)) fun i k c c' u e1 e2 hl _=>by
  have:cellAt (rows++rows') i k=some c':=by
   unfold cellAt at e2 ⊢
   cases hr:rows[i]? with
   | none=>rw [hr] at e2;cases e2
   | some r=>rw [hr] at e2;rw [List.getElem?_append_left (List.getElem?_eq_some_iff.1 hr).1,hr];exact e2
  rw [e1] at this
  cases this
  exact hl
 exact ⟨E,⟨hR,hs.tmps,hs.defers.grow hs.heap g,by have:=hs.base;simpa using this⟩,g.toB (by rw [hs.heap.n];exact hs.base)⟩
end
theorem zb.zkS {P:Program} {f:FuncId} {H H1 H2:ze} {args:List C} {r r':C} (h:zb P f H args r H1) (hw:∀ B,B<=H.length->B<=H1.length->zl B ⟨[r],H1⟩ ⟨[r'],H2⟩) (hl:H.length<=H2.length):zb P f H args r' H2:=fun w E vs hh hl0=>by
 refine (h w E vs hh hl0).mono ?_
 rintro e w' ⟨v,E',h1,h2,h3,g⟩
 have hHH:H.length<=H1.length:=by rw [<- hh.n,<- h2.n];exact g.le.n
 obtain ⟨E2,hs,g2⟩:=hw H.length (Nat.le_refl _) hHH 0 w' E' ⟨#[v],[]⟩ ⟨h2,LL.one h3,Nat.zero_le _,hHH⟩
 have hn2:=hs.heap.n
 refine ⟨v,E2,h1,hs.heap,hs.tmps.cons_inv.1,⟨⟨by rw [hh.n,hn2];exact hl,fun id hops hi=>?_,fun id hops hi=>?_,fun b o u hu=>g2.le.St _ _ _ (g.le.St _ _ _ hu),fun id k u hi hu=>?_⟩,g2.os.trans g.os,g2.tape.trans g.tape,g2.output.trans g.output,Nat.le_trans g.size g2.size,?_,?_,?_⟩⟩
 ·rw [hh.n] at hi;exact (g2.le.β id hops hi).trans (g.le.β id hops (by rw [hh.n];exact hi))
 ·rw [hh.n] at hi;exact (g2.le.κ id hops hi).trans (g.le.κ id hops (by rw [hh.n];exact hi))
 ·rw [hh.n] at hi;exact g2.le.G id k u hi (g.le.G id k u (by rw [hh.n];exact hi) hu)
 ·intro k hk ho
  exact (g2.frame k (Nat.lt_of_lt_of_le hk g.size) fun hc=>(g.own k hc).elim (fun h=>by omega) ho).trans (g.frame k hk ho)
 ·intro b o u hu
  rcases g2.qs b o u hu with h1 | h1 | h1
  ·exact g.qs b o u h1
  ·exact .inr (.inl (Nat.le_trans g.size h1))
  ·rcases g.own b h1 with h4 | h4
   ·exact .inr (.inl h4)
   ·exact .inr (.inr h4)
 ·intro b hb
  rcases g2.own b hb with h1 | h1
  ·exact .inl (Nat.le_trans g.size h1)
  ·exact g.own b h1
end Go.Ab
namespace Go.Ab
section
variable {P:Program} {B:Nat}
structure RK (P:Program) (B:Nat) (c:Code) (t:List C) (H:ze) (K:Exit->List C->ze->Prop):Prop where
 out:z1 P B c ⟨t,H⟩ fun ex s=>K ex s.tmps s.H
theorem RK.zkS {c:Code} {t t1:List C} {H H1:ze} {K:Exit->List C->ze->Prop} (hw:zl B ⟨t,H⟩ ⟨t1,H1⟩) (h:RK P B c t1 H1 K):RK P B c t H K:=⟨.pre hw h.out⟩
theorem RK.seq {x y:Code} {t:List C} {H:ze} {K:Exit->List C->ze->Prop} (h:RK P B x t H fun ex t1 H1=>match ex with
  | .normal=>RK P B y t1 H1 K
  | ex=>K ex t1 H1):RK P B (.seq x y) t H K:=⟨.seq (h.out.mono fun ex s1 h1=>by
 cases ex with
 | normal=>exact (show RK P B y s1.tmps s1.H K from h1).out
 | _=>exact h1)⟩
theorem RK.block {id:Nat} {c:Code} {t:List C} {H:ze} {K:Exit->List C->ze->Prop} (h:RK P B c t H fun ex t1 H1=>match ex with
  | .exit id'=>if id'=id then K .normal t1 H1 else K (.exit id') t1 H1
  | ex=>K ex t1 H1):RK P B (.block id c) t H K:=⟨.block (h.out.mono fun ex s1 h1=>by
 cases ex with
 | exit id'=>exact h1
 | _=>exact h1)⟩
structure OK (P:Program) (B:Nat) (ops:Array Oper) (l:List Oper) (t:List C) (H:ze) (R:S->Prop):Prop where
 out:xS P B ops l ⟨t,H⟩ R
theorem RK.cond {c:Operand} {x y:Code} {b:Bool} {t:List C} {H:ze} {K:Exit->List C->ze->Prop} (hc:ev t c=.v (.bool b)) (h:RK P B (if b then x else y) t H K):RK P B (.cond c x y) t H K:=⟨.cond (s:=⟨t,H⟩) hc h.out⟩
theorem OK.nil {ops:Array Oper} {t:List C} {H:ze} {R:S->Prop} (h:R ⟨t,H⟩):OK P B ops [] t H R:=⟨.nil h⟩
theorem OK.run {ops:Array Oper} {o:Oper} {l:List Oper} {t:List C} {H:ze} {R:S->Prop} (hw:qk ops t o=some true) (h:qp P o (ev t) H fun c H'=>OK P B ops l (put t o.dst c) H' R):OK P B ops (o::l) t H R:=
 ⟨.run (s:=⟨t,H⟩) hw (.zbl (s:=⟨t,H⟩) h) (by rintro s1 ⟨c,H',h1,rfl⟩;exact h1.out)⟩
variable {o:Oper} {ρ:Operand->C} {H:ze}
end
theorem zb.zbm {P:Program} {f:FuncId} {fn:Func} {c:Code} {args:List C} {r:C} (hf:P.funcs[f]?= some fn) (hb:fn.body=some c)
  (h:z1 P 0 c ⟨entry fn args,[]⟩ fun ex s=>(ex=.ret∨ex=.normal)∧∃ s2,zl 0 s s2∧(yx P fn s2).map (jG 0 9)=some r):zb P f [] args r []:=by
 refine qe.zfW (qe.x4 (H:=[]) hf hb (h.mono fun ex s1 ⟨hex,s2,hw,h2⟩=>?_))
 cases h3:yx P fn s2 with
 | none=>rw [h3] at h2;cases h2
 | some r0=>
  rw [h3] at h2
  cases h2
  exact ⟨hex,s2,r0,hw,h3,rfl⟩
end Go.Ab
namespace Go.Ab
def E0 (w:World):Env:=
 { n:=0,β:=fun _ _=>0,κ:=fun _ _=>0,St:=fun b o=>match w.cell? ⟨b,o,none⟩ with | some u=>if u.oneCell' then some u else none | none=>none }
theorem ziD {w:World} {b o:Nat} {u:Value}:(E0 w).St b o=some u↔w.cell? ⟨b,o,none⟩=some u∧u.oneCell'=true:=by
 unfold E0
 dsimp only
 cases h:w.cell? ⟨b,o,none⟩ with
 | none=>simp
 | some v=>
  dsimp only
  split
  ·rename_i h1
   constructor
   ·intro e;cases e;exact ⟨rfl,h1⟩
   ·rintro ⟨e,_⟩;exact e
  ·rename_i h1
   constructor
   ·intro e;cases e
   ·rintro ⟨e,h2⟩;cases e;exact absurd h2 h1
theorem zg5 (w:World):zH w (E0 w) [] where
 base:=⟨rfl,by simp,by simp [zy],fun b o u h=>ziD.1 h,by simp [zy],by simp,by simp⟩
 gro:=⟨by simp,by simp,fun id b ⟨ob,_,h,_⟩=>by simp at h,fun _ _ b ⟨ob,_,h,_⟩=>by simp at h,by simp,by simp,by simp,fun _ _ b ⟨ob,_,_,h,_⟩=>by simp at h⟩
def fits (P:Program) {H:Type} (t:TypeId) (d:DataW H):Prop:=(d.weights P t).all (·<=reachBytes)=true
def zi (P:Program) (t:TypeId) {α:Type} (enc:α->List C) (wf:α->Prop):Prop:=
 ∀ {H:Type} (eH:TypeId × Value->H) (w:World) (fuel:Nat) (cs:List Value) (d:DataW H) (ps:List MemPlace),
  DataW.trod eH P w 0 (fun _=>true) true fuel t cs=some (d,ps)->fits P t d->∃ x,wf x∧LL (E0 w) (enc x) cs∧∀ u ∈ cs,u.oneCell'=true
section
variable {P:Program} {t:TypeId}
theorem zi.int {k:IntKind} (ht:P.underlying t=some (.int k)):zi P t (fun n:Int=>[.v (.int k n)]) (fun n=>(Lit.int k n).wf=true):=by
 intro H eH w fuel cs d ps h _
 cases fuel with
 | zero=>cases h
 | succ fuel=>
  rcases cs with _ | ⟨v,_ | ⟨v2,r⟩⟩
  ·simp [DataW.trod,ht] at h
  ·cases v <;> simp [DataW.trod,ht] at h
   obtain ⟨⟨rfl,hw⟩,_⟩:=h
   exact ⟨_,hw,.one (.v _ rfl),by intro u hu;simp at hu;subst hu;rfl⟩
  ·simp [DataW.trod,ht] at h
theorem zi.bool (ht:P.underlying t=some .bool):zi P t (fun b:Bool=>[.v (.bool b)]) (fun _=>True):=by
 intro H eH w fuel cs d ps h _
 cases fuel with
 | zero=>cases h
 | succ fuel=>
  rcases cs with _ | ⟨v,_ | ⟨v2,r⟩⟩
  ·simp [DataW.trod,ht] at h
  ·cases v <;> simp [DataW.trod,ht] at h
   exact ⟨_,trivial,.one (.v _ rfl),by intro u hu;simp at hu;subst hu;rfl⟩
  ·simp [DataW.trod,ht] at h
theorem zi.string (ht:P.underlying t=some .string):zi P t (fun s:ByteArray=>[.v (.string s)]) (fun s=>s.size<=reachBytes):=by
 intro H eH w fuel cs d ps h hf
 cases fuel with
 | zero=>cases h
 | succ fuel=>
  rcases cs with _ | ⟨v,_ | ⟨v2,r⟩⟩
  ·simp [DataW.trod,ht] at h
  ·cases v <;> simp [DataW.trod,ht] at h
   obtain ⟨_,rfl,_⟩:=h
   refine ⟨_,?_,.one (.v _ rfl),by intro u hu;simp at hu;subst hu;rfl⟩
   simpa [fits,DataW.weights] using hf
  ·simp [DataW.trod,ht] at h
theorem zbC {w:World} {a:Addr} (ha:a.spot=none) {n:Nat} {cs:List Value} (h:w.cells? 0 a n=some cs):cs.length=n∧∀ (j:Nat) u,cs[j]?= some u->w.cell? ⟨a.block,a.off+j,none⟩=some u:=by
 unfold World.cells? at h
 rw [if_pos (Nat.zero_le _)] at h
 have key:∀ (m k:Nat) (cs:List Value),((List.range' k m).mapM fun i=>w.cell? (a.add i))=some cs->cs.length=m∧∀ (j:Nat) u,cs[j]?= some u->w.cell? (a.add (k+j))=some u:=by
  intro m
  induction m with
  | zero=>intro k cs h;simp at h;subst h;simp
  | succ m ih=>
   intro k cs h
   rw [List.range'_succ,List.mapM_cons] at h
   cases h1:w.cell? (a.add k) with
   | none=>rw [h1] at h;cases h
   | some u0=>
    rw [h1] at h
    cases h2:((List.range' (k+1) m).mapM fun i=>w.cell? (a.add i)) with
    | none=>rw [h2] at h;cases h
    | some r=>
     rw [h2] at h
     cases h
     obtain ⟨h3,h4⟩:=ih (k+1) r h2
     refine ⟨by simp [h3],?_⟩
     intro j u hj
     cases j with
     | zero=>simp at hj;subst hj;exact h1
     | succ j=>simp at hj;have:=h4 j u hj;rw [show k+1+j=k+(j+1) by omega] at this;exact this
 rw [List.range_eq_range'] at h
 obtain ⟨h1,h2⟩:=key n 0 cs h
 refine ⟨h1,fun j u hj=>?_⟩
 have:=h2 j u hj
 rw [Nat.zero_add] at this
 unfold Addr.add at this
 split at this
 ·rename_i hj0;subst hj0;obtain ⟨b,o,sp⟩:=a;cases ha;exact this
 ·exact this
theorem q8 {β:Type} {f:Nat->Option β}:∀ {n k:Nat} {xs:List β},(List.range' k n).mapM f=some xs->xs.length=n∧∀ (j:Nat) x,xs[j]?= some x->f (k+j)=some x
 | 0,k,xs,h=>by simp at h;subst h;simp
 | n+1,k,xs,h=>by
  rw [List.range'_succ,List.mapM_cons] at h
  cases h1:f k with
  | none=>rw [h1] at h;cases h
  | some u0=>
   rw [h1] at h
   cases h2:(List.range' (k+1) n).mapM f with
   | none=>rw [h2] at h;cases h
   | some r=>
    rw [h2] at h
    cases h
    obtain ⟨h3,h4⟩:=q8 h2
    refine ⟨by simp [h3],?_⟩
    intro j u hj
    cases j with
    | zero=>simp at hj;subst hj;exact h1
    | succ j=>simp at hj;have:=h4 j u hj;rw [show k+1+j=k+(j+1) by omega] at this;exact this
theorem wZ {w:World} {a:Addr} {u:Value} (h:w.cell? a=some u):a.spot=none:=by
 unfold World.cell? at h
 split at h
 ·split at h
  ·cases h
  ·rename_i hs;simpa using hs
 ·cases h
theorem xU {w:World} {a:Addr} {n:Nat} {cs:List Value} (h:w.cells? 0 a n=some cs) (hn:0 < n):a.spot=none:=by
 unfold World.cells? at h
 rw [if_pos (Nat.zero_le _),List.range_eq_range'] at h
 obtain ⟨h1,h2⟩:=q8 h
 have h3:cs[0]?= some cs[0]:=by simp [h1,hn]
 have:=h2 0 _ h3
 simp [Addr.add] at this
 exact wZ this
theorem jy {H:Type} {e:TypeId}:∀ {l:List (DataW H)} {d:DataW H},d ∈ l->∀ n ∈ d.weights P e,n ∈ DataW.weightsAll P e l
 | d0::l,d,hd,n,hn=>by
  simp only [DataW.weightsAll,List.mem_append]
  rcases List.mem_cons.1 hd with rfl | hd
  ·exact .inl hn
  ·exact .inr (jy hd n hn)
theorem zi.slice {e:TypeId} {α:Type} {enc:α->List C} {wf:α->Prop} (ht:P.underlying t=some (.slice e)) {sz by_:Nat} (hc:P.cellsOf e=sz) (hb:P.bytesOf e=by_) (hpos:0 < sz) (hsz:∀ x,(enc x).length=sz)
  (h:zi P e enc wf):zi P t (fun l:List α=>[.lst 0 sz (l.map enc)]) (fun l=>(∀ x ∈ l,wf x)∧l.length * by_<=reachBytes):=by
 subst hc
 subst hb
 intro H eH w fuel cs d ps hr hf
 cases fuel with
 | zero=>cases hr
 | succ fuel=>
  rcases cs with _ | ⟨v,_ | ⟨v2,r⟩⟩
  ·simp [DataW.trod,ht] at hr
  rotate_left
  ·simp [DataW.trod,ht] at hr
  have nil:∀ a,∃ x:List α,((∀ y ∈ x,wf y)∧x.length * P.bytesOf e<=reachBytes)∧LL (E0 w) [.lst 0 (P.cellsOf e) (x.map enc)] [.slice a 0 0]∧∀ u ∈ [Value.slice a 0 0],u.oneCell'=true:=fun a=>
   ⟨[],⟨by simp,by simp⟩,.one (.qP 0 _ (.inl rfl) a),by intro u hu;simp at hu;subst hu;rfl⟩
  cases v with
  | slice a len cap=>
   cases a with
   | none=>
    by_cases hz:len=0∧cap=0
    ·obtain ⟨rfl,rfl⟩:=hz
     exact nil none
    ·exfalso
     unfold DataW.trod at hr
     rw [ht] at hr
     dsimp only at hr
     split at hr <;> simp_all
   | some a=>
    simp only [DataW.trod,ht] at hr
    split at hr
    rotate_left
    ·cases hr
    rename_i hbound
    rw [List.range_eq_range'] at hr
    simp only [List.range_eq_range',if_true] at hr
    cases h1:(List.range' 0 len).mapM fun i=>(w.cells? 0 (a.add (i * P.cellsOf e)) (P.cellsOf e)).bind (DataW.trod eH P w 0 (fun _=>true) true fuel e) with
    | none=>rw [h1] at hr;cases hr
    | some elems=>
     rw [h1] at hr
     simp only [Option.bind_some] at hr
     cases h2:(List.range' 0 (cap - len)).mapM fun j=>(w.cells? 0 (a.add ((len+j) * P.cellsOf e)) (P.cellsOf e)).bind (DataW.trod eH P w 0 (fun _=>true) true fuel e) with
     | none=>rw [h2] at hr;cases hr
     | some rest=>
      rw [h2] at hr
      simp only [Option.map_some,Option.some.injEq,Prod.mk.injEq] at hr
      obtain ⟨rfl,_⟩:=hr
      obtain ⟨l1,g1⟩:=q8 h1
      obtain ⟨l2,g2⟩:=q8 h2
      by_cases hz:cap=0
      ·have hl0:len=0:=by omega
       subst hz
       subst hl0
       exact nil (some a)
      ·have hspot:a.spot=none:=by
        by_cases hl:len=0
        ·have h3:rest[0]?= some (rest[0]'(by omega)):=List.getElem?_eq_getElem _
         have h4:=g2 0 _ h3
         subst hl
         simp only [Nat.zero_add,Nat.zero_mul] at h4
         cases h5:w.cells? 0 (a.add 0) (P.cellsOf e) with
         | none=>rw [h5] at h4;cases h4
         | some cs=>have:=xU h5 hpos;simpa [Addr.add] using this
        ·have h3:elems[0]?= some (elems[0]'(by omega)):=List.getElem?_eq_getElem _
         have h4:=g1 0 _ h3
         simp only [Nat.zero_add,Nat.zero_mul] at h4
         cases h5:w.cells? 0 (a.add 0) (P.cellsOf e) with
         | none=>rw [h5] at h4;cases h4
         | some cs=>have:=xU h5 hpos;simpa [Addr.add] using this
       have hfw:=hf
       simp only [fits,DataW.weights,ht,List.all_cons,List.all_append,Bool.and_eq_true,decide_eq_true_eq] at hfw
       obtain ⟨hf1,hf2,_⟩:=hfw
       have each:∀ i,i < len->∃ x,wf x∧∃ cs,w.cells? 0 (a.add (i * P.cellsOf e)) (P.cellsOf e)=some cs∧LL (E0 w) (enc x) cs∧∀ u ∈ cs,u.oneCell'=true:=by
        intro i hi
        have h3:elems[i]?= some elems[i]:=by simp [l1,hi]
        have h4:=g1 i _ h3
        rw [Nat.zero_add] at h4
        cases h5:w.cells? 0 (a.add (i * P.cellsOf e)) (P.cellsOf e) with
        | none=>rw [h5] at h4;cases h4
        | some cs=>
         rw [h5] at h4
         obtain ⟨x,hx1,hx2,hx3⟩:=h eH w fuel cs elems[i].1 elems[i].2 h4 (by
          unfold fits
          rw [List.all_eq_true]
          intro n hn
          refine List.all_eq_true.1 hf2 n (jy ?_ n hn)
          simp only [List.mem_map]
          exact ⟨elems[i],by simp,rfl⟩)
         exact ⟨x,hx1,cs,rfl,hx2,hx3⟩
       have pick:∃ xs:List α,xs.length=len∧∀ (i:Nat) x,xs[i]?= some x->wf x∧∃ cs,w.cells? 0 (a.add (i * P.cellsOf e)) (P.cellsOf e)=some cs∧LL (E0 w) (enc x) cs∧∀ u ∈ cs,u.oneCell'=true:=by
        clear h1 h2 l1 l2 g1 g2 hf hf1 hf2
        clear hbound nil
        induction len with
        | zero=>exact ⟨[],rfl,by simp⟩
        | succ n ih=>
         obtain ⟨xs,hx1,hx2⟩:=ih (fun i hi=>each i (by omega))
         obtain ⟨x,hx3⟩:=each n (by omega)
         refine ⟨xs++[x],by simp [hx1],?_⟩
         intro i y hy
         by_cases hi:i < n
         ·rw [List.getElem?_append_left (by omega)] at hy
          exact hx2 i y hy
         ·rw [List.getElem?_append_right (by omega)] at hy
          have:i - xs.length=0:=by
           have:=(List.getElem?_eq_some_iff.1 hy).1
           simp at this
           omega
          rw [this] at hy
          cases hy
          obtain rfl:i=n:=by omega
          exact hx3
       obtain ⟨xs,hx1,hx2⟩:=pick
       refine ⟨xs,⟨fun x hx=>?_,?_⟩,.one ?_,by intro u hu;simp at hu;subst hu;rfl⟩
       ·obtain ⟨i,hi⟩:=List.mem_iff_getElem?.1 hx
        exact (hx2 i x hi).1
       ·rw [hx1]
        have:len * P.bytesOf e<=cap * P.bytesOf e:=Nat.mul_le_mul_right _ hbound.2.1
        simp [l1,l2] at hf1
        have e1:len+(cap - len)=cap:=by omega
        rw [e1] at hf1
        omega
       ·obtain ⟨b,off,sp⟩:=a
        cases hspot
        have cell:∀ i r k c,(xs.map enc)[i]?= some r->r[k]?= some c->∃ u,(E0 w).St b (off+i * P.cellsOf e+k)=some u∧L (E0 w) c u:=by
         intro i r k c hr hc
         rw [List.getElem?_map] at hr
         cases hxi:xs[i]? with
         | none=>rw [hxi] at hr;cases hr
         | some x=>
          rw [hxi] at hr
          cases hr
          obtain ⟨_,cs,e1,e2,e3⟩:=hx2 i x hxi
          obtain ⟨u,hu,hl⟩:=e2.get hc
          obtain ⟨_,hcell⟩:=zbC (a:=(⟨b,off,none⟩:Addr).add (i * P.cellsOf e)) (by unfold Addr.add;split <;> rfl) e1
          have:=hcell k u hu
          rw [qH] at this
          exact ⟨u,ziD.2 ⟨this,e3 u (List.mem_of_getElem? hu)⟩,hl⟩
        have hlen:(xs.map enc).length=len:=by simp [hx1]
        have:=L.lst (E:=E0 w) 0 (P.cellsOf e) (xs.map enc) b off cap (fun i k=>((E0 w).St b (off+i * P.cellsOf e+k)).getD undef) (.inl rfl) (by rw [hlen];exact hbound.2.1) ?_ ?_ ?_
        ·rw [hlen] at this;exact this
        ·intro r hr
         obtain ⟨x,_,rfl⟩:=List.mem_map.1 hr
         exact hsz x
        ·intro i r k c h5 h6
         obtain ⟨u,hu,_⟩:=cell i r k c h5 h6
         rw [hu];rfl
        ·intro i r k c h5 h6
         obtain ⟨u,hu,hl⟩:=cell i r k c h5 h6
         rw [hu]
         exact hl
  | _=>
   unfold DataW.trod at hr
   rw [ht] at hr
   simp at hr
theorem zi.map {α β:Type} {enc:α->List C} {wf:α->Prop} {enc':β->List C} {wf':β->Prop} (h:zi P t enc wf) (g:α->β) (hg:∀ a,wf a->wf' (g a)∧enc' (g a)=enc a):zi P t enc' wf':=by
 intro H eH w fuel cs d ps hr hf
 obtain ⟨x,h1,h2,h3⟩:=h eH w fuel cs d ps hr hf
 exact ⟨g x,(hg x h1).1,by rw [(hg x h1).2];exact h2,h3⟩
def zo (P:Program) (fs:List Field) (off:Nat) {α:Type} (enc:α->List C) (wf:α->Prop):Prop:=
 ∀ {H:Type} (eH:TypeId × Value->H) (w:World) (fuel:Nat) (cs:List Value) (xs:List (DataW H × List MemPlace)),
  (fs.mapM fun f=>DataW.trod eH P w 0 (fun _=>true) true fuel f.type ((cs.drop f.offset).take (P.cellsOf f.type)))=some xs->
  (DataW.weightsEach P (fs.map (·.type)) (xs.map (·.1))).all (·<=reachBytes)=true->cs.length=off+(fs.map fun f=>P.cellsOf f.type).sum->∃ x,wf x∧LL (E0 w) (enc x) (cs.drop off)∧∀ u ∈ cs.drop off,u.oneCell'=true
theorem zo.nil (off:Nat):zo P [] off (fun _:Unit=>[]) (fun _=>True):=by
 intro H eH w fuel cs xs _ _ hl
 simp at hl
 rw [List.drop_eq_nil_of_le (by omega)]
 exact ⟨(),trivial,LL.nil,by simp⟩
theorem zo.cons {f:Field} {fs:List Field} {off:Nat} {α β:Type} {enc:α->List C} {wf:α->Prop} {enc':β->List C} {wf':β->Prop} (ho:f.offset=off) (h:zi P f.type enc wf) (h':zo P fs (off+P.cellsOf f.type) enc' wf'):
  zo P (f::fs) off (fun x:α × β=>enc x.1++enc' x.2) (fun x=>wf x.1∧wf' x.2):=by
 intro H eH w fuel cs xs hm hf hl
 rw [List.mapM_cons] at hm
 cases h1:DataW.trod eH P w 0 (fun _=>true) true fuel f.type ((cs.drop f.offset).take (P.cellsOf f.type)) with
 | none=>rw [h1] at hm;cases hm
 | some x1=>
  rw [h1] at hm
  cases h2:(fs.mapM fun f=>DataW.trod eH P w 0 (fun _=>true) true fuel f.type ((cs.drop f.offset).take (P.cellsOf f.type))) with
  | none=>rw [h2] at hm;cases hm
  | some r=>
   rw [h2] at hm
   cases hm
   simp only [List.map_cons,DataW.weightsEach,List.all_append,Bool.and_eq_true] at hf
   obtain ⟨a,a1,a2,a3⟩:=h eH w fuel _ x1.1 x1.2 h1 hf.1
   obtain ⟨b,b1,b2,b3⟩:=h' eH w fuel cs r h2 hf.2 (by simp at hl ⊢;omega)
   rw [ho] at a2 a3
   have e:cs.drop off=(cs.drop off).take (P.cellsOf f.type)++cs.drop (off+P.cellsOf f.type):=by
    rw [<- List.drop_drop,List.take_append_drop]
   refine ⟨(a,b),⟨a1,b1⟩,?_,?_⟩
   ·rw [e];exact a2.append b2
   ·rw [e]
    intro u hu
    rcases List.mem_append.1 hu with hu | hu
    ·exact a3 u hu
    ·exact b3 u hu
theorem zi.struct {fs:Array Field} {α:Type} {enc:α->List C} {wf:α->Prop} (ht:P.underlying t=some (.struct fs)) (hc:P.cellsOf t=(fs.toList.map fun f=>P.cellsOf f.type).sum) (h:zo P fs.toList 0 enc wf):zi P t enc wf:=by
 intro H eH w fuel cs d ps hr hf
 cases fuel with
 | zero=>cases hr
 | succ fuel=>
  unfold DataW.trod at hr
  rw [ht] at hr
  dsimp only at hr
  split at hr
  ·rename_i hl
   cases h2:(fs.toList.mapM fun f=>DataW.trod eH P w 0 (fun _=>true) true fuel f.type ((cs.drop f.offset).take (P.cellsOf f.type))) with
   | none=>rw [h2] at hr;cases hr
   | some xs=>
    rw [h2] at hr
    cases hr
    obtain ⟨x,h3,h4,h5⟩:=h eH w fuel cs xs h2 (by simpa [fits,DataW.weights,ht] using hf) (by rw [hl,hc];simp)
    exact ⟨x,h3,by simpa using h4,by simpa using h5⟩
  ·cases hr
def OpenArg (P:Program) (t:TypeId) {α:Type} (c:α->C) (wf:α->Prop):Prop:=
 ∀ {H:Type} (eH:TypeId × Value->H) (w:World) (base:Nat) (v:Value) (d:DataW H) (ps:List MemPlace),Value.okWide P w .any base t v->
  DataW.Trod eH P w 0 (fun _=>true) true t v d ps->fits P t d->∃ x,wf x∧L (E0 w) (c x) v
theorem zi.zfP {α:Type} {c:α->C} {wf:α->Prop} (h:zi P t (fun x=>[c x]) wf) (hone:∀ (w:World) base v,Value.okWide P w .any base t v->v.cells= #[v]):OpenArg P t c wf:=by
 intro H eH w base v d ps hv hd hf
 obtain ⟨fuel,hd⟩:=hd
 rw [hone w base v hv] at hd
 obtain ⟨x,h1,h2,_⟩:=h eH w fuel _ d ps hd hf
 exact ⟨x,h1,h2.cons_inv.1⟩
theorem zi.zfO {k:IntKind} (ht:P.underlying t=some (.int k)):OpenArg P t (fun n:Int=>.v (.int k n)) (fun n=>(Lit.int k n).wf=true):=
 zi.zfP (c:=fun n=>.v (.int k n)) (zi.int ht) fun w base v hv=>by obtain ⟨n,rfl⟩:=WideShapes.okWide_int ht hv;rfl
theorem zi.wV {α:Type} {enc:α->List C} {wf:α->Prop} {fs:Array Field} (ht:P.underlying t=some (.struct fs)) (h:zi P t enc wf):OpenArg P t (fun x=>.agg (enc x)) wf:=by
 intro H eH w base v d ps hv hd hf
 simp only [Value.okWide,ht] at hv
 obtain ⟨cs,rfl,_⟩:=hv
 obtain ⟨fuel,hd⟩:=hd
 obtain ⟨x,h1,h2,h3⟩:=h eH w fuel _ d ps hd hf
 exact ⟨x,h1,.agg _ cs (by simpa [Value.cells] using h2.1) (fun i c y e1 e2=>h2.2 i c y e1 (by simpa [Value.cells] using e2)) (fun u hu=>h3 u (by simpa [Value.cells] using hu))⟩
def OpenArgs (P:Program) (ts:List TypeId) {α:Type} (c:α->List C) (wf:α->Prop):Prop:=
 ∀ {H:Type} (eH:TypeId × Value->H) (w:World) (base:Nat) (vs:List Value) (ds:List (DataW H)) (ps:List MemPlace),(∀ (j:Nat) t v,ts[j]?= some t->vs[j]?= some v->Value.okWide P w .any base t v)->
  DataW.TrodAll eH P w 0 (fun _=>true) true ts vs ds ps->(DataW.weightsEach P ts ds).all (·<=reachBytes)=true->∃ x,wf x∧LL (E0 w) (c x) vs
theorem OpenArgs.nil:OpenArgs P [] (fun _:Unit=>[]) (fun _=>True):=by
 intro H eH w base vs ds ps _ h _
 match vs,ds,h with
 | [],[],_=>exact ⟨(),trivial,LL.nil⟩
theorem OpenArgs.cons {ts:List TypeId} {α β:Type} {c:α->C} {wf:α->Prop} {cs:β->List C} {wf':β->Prop} (h:OpenArg P t c wf) (h':OpenArgs P ts cs wf'):
  OpenArgs P (t::ts) (fun x:α × β=>c x.1::cs x.2) (fun x=>wf x.1∧wf' x.2):=by
 intro H eH w base vs ds ps hv hd hf
 match vs,ds,hd with
 | v::vs,d::ds,⟨p,q,h1,h2,_⟩=>
  simp only [DataW.weightsEach,List.all_append,Bool.and_eq_true] at hf
  obtain ⟨a,a1,a2⟩:=h eH w base v d p (hv 0 t v rfl rfl) h1 hf.1
  obtain ⟨b,b1,b2⟩:=h' eH w base vs ds q (fun j t' v' e1 e2=>hv (j+1) t' v' (by simpa using e1) (by simpa using e2)) h2 hf.2
  exact ⟨(a,b),⟨a1,b1⟩,LL.cons a2 b2⟩
end
theorem jD {P:Program} {H:Type} {eH:TypeId × Value->H} (hl:laidOutB P=true) {W W':World} {sp':Nat->Bool}:∀ {ts:List TypeId} {vs:List Value} {ds:List (DataW H)} {ps:List MemPlace},
  ts.all (fun t=>P.readableRec t && decide (t < P.types.size))=true->DataW.TrodAll eH P W 0 (fun _=>true) true ts vs ds ps->(∀ p ∈ ps,W.sameAt W' p)->(∀ p ∈ ps,sp' p.block=true)->DataW.TrodAll eH P W' 0 sp' true ts vs ds ps
 | [],[],[],ps,_,h,_,_=>h
 | t::ts,v::vs,d::ds,ps,hts,⟨p,q,h1,h2,e⟩,hsame,hs=>by
  subst e
  simp only [List.all_cons,Bool.and_eq_true,decide_eq_true_eq] at hts
  exact ⟨p,q,WideElems.Trod_stays hl hts.1.1 hts.1.2 h1 (fun x hx=>hsame x (by simp [hx])) (fun x hx=>hs x (by simp [hx])),jD hl hts.2 h2 (fun x hx=>hsame x (by simp [hx])) (fun x hx=>hs x (by simp [hx])),rfl⟩
theorem yt {w w':World} {E E':Env} (g:Grow w E [] w' E' []):RowKit.Below w.heap.size w w':=
 ⟨g.os,g.tape,g.output,g.size,fun k hk=>g.frame k hk qz.none⟩
theorem xy {P:Program} {H:Type} {eH:TypeId × Value->H} {w:World} {b:Nat} {sp:Nat->Bool} {hd:Bool}:∀ {ts:List TypeId} {vs:List Value} {ds:List (DataW H)} {ps:List MemPlace},DataW.TrodAll eH P w b sp hd ts vs ds ps->ds.length=ts.length
 | [],[],[],_,_=>rfl
 | _::_,_::_,_::_,_,⟨_,_,_,h,_⟩=>by simp [xy h]
theorem law_close {P:Program} {f:FuncId} {fn:Func} {s:ChangeSpec} {H:Type} {eH:TypeId × Value->H} {W:World} {base:Nat} {args:Array Value} {ds gs:List (DataW H)} {before:List MemPlace} {tb:TypeId} {α:Type} {c:α->List C} {wf:α->Prop}
  (hl:laidOutB P=true) (hts:fn.params.toList.all (fun t=>P.readableRec t && decide (t < P.types.size))=true) (hres:fn.resultTypes= #[tb]) (htb:P.underlying tb=some .bool) (hvars:s.vars=[])
  (hspec:∀ ds:List (DataW H),ds.length=fn.params.toList.length->s.fn H (ds++[])={ results:=[.lit (.bool true)],args:=ds })
  (hval:∀ (j:Nat) t v,fn.params[j]?= some t->args[j]?= some v->Value.okWide P W .any base t v)
  (hW:DataW.Whole eH P fn.params.toList s.vars false W args.toList ds gs before)
  (hsz:(DataW.weightsEach P (fn.params.toList++s.plain.varTypes P) (ds++gs)).all (·<=reachBytes)=true)
  (hop:OpenArgs P fn.params.toList c wf) (hs:∀ x,wf x->zb P f [] (c x) (.v (.bool true)) []):
  Calls P f args W fun e W'=>∃ v,e=.returned v∧s.post eH P fn false true false false W args v W':=by
 have hW':=hW
 obtain ⟨p,q,hA,hV,rfl,hfz,hnd⟩:=hW
 rw [hvars] at hV
 obtain ⟨rfl,rfl⟩:=ChangeShapes.trodVars_none hV
 have hvt:s.plain.varTypes P=[]:=by simp [DataSpec.varTypes,ChangeSpec.plain,hvars]
 rw [hvt] at hsz
 simp only [List.append_nil] at hsz
 have hlt:=hW'.lt
 obtain ⟨x,hx,hL⟩:=hop eH W base args.toList ds p (fun j t v e1 e2=>hval j t v (by simpa using e1) (by simpa using e2)) hA hsz
 refine (hs x hx W (E0 W) args (zg5 W) hL).mono ?_
 rintro e W' ⟨v,E',rfl,_,hv,g⟩
 have hb:=yt g
 obtain rfl:v=.bool true:=by cases hv;rfl
 have hlen:=xy hA
 have hsp:=hspec ds hlen
 refine ⟨_,rfl,ds,[],p++[],[],p,[],hW',?_,?_,?_,?_,fun h=>by cases h⟩
 ·rw [hsp,hres]
  exact ⟨[],[],RowKit.shut_bool htb _,rfl,rfl⟩
 ·rw [hsp]
  exact jD hl hts hA (fun x hx=>hb.same (hlt x (by simpa using hx))) (fun x hx=>by simpa using hlt x (by simpa using hx))
 ·rw [hsp,hvars]
  rfl
 ·exact hb.frame _
end Go.Ab
namespace Go.Hy
open Go.Ab
abbrev Str:=List UInt8
abbrev I (n:Int):C:=.v (.int .i64 n)
abbrev U (n:Int):C:=.v (.int .u64 n)
abbrev Bo (b:Bool):C:=.v (.bool b)
abbrev Tx (s:Str):C:=.v (.string ⟨⟨s⟩⟩)
def encI (n:Int):List C:=[I n]
def zls (n:Int):List C:=[U n]
def xV (b:Bool):List C:=[Bo b]
def w8 (s:Str):List C:=[Tx s]
abbrev lI (l:List Int):C:=.lst 0 1 (l.map encI)
abbrev lU (l:List Int):C:=.lst 0 1 (l.map zls)
abbrev lB (l:List Bool):C:=.lst 0 1 (l.map xV)
abbrev lT (l:List Str):C:=.lst 0 1 (l.map w8)
def i64 (n:Int):Prop:= -9223372036854775808<=n∧n<=9223372036854775807
def u64 (n:Int):Prop:=0<=n∧n<=18446744073709551615
instance (n:Int):Decidable (i64 n):=by unfold i64;infer_instance
instance (n:Int):Decidable (u64 n):=by unfold u64;infer_instance
structure Ret where
 version:Int
 at_:Int
 gone:Bool
def qM (r:Ret):List C:=[I r.version,I r.at_,Bo r.gone]
abbrev lR (l:List Ret):C:=.lst 0 3 (l.map qM)
def Ret.ok (r:Ret):Prop:=i64 r.version∧i64 r.at_
structure Lis where
 name:Str
 drain:Bool
 zr:Int
 closed:Bool
def qL (l:Lis):List C:=[Tx l.name,Bo l.drain,I l.zr,Bo l.closed]
abbrev lL (l:List Lis):C:=.lst 0 4 (l.map qL)
def Lis.ok (l:Lis):Prop:=l.name.length<=reachBytes∧i64 l.zr
structure En where
 head:Int
 next:List Int
 zr:Int
def zX (e:En):List C:=[U e.head,lI e.next,I e.zr]
abbrev lE (l:List En):C:=.lst 0 3 (l.map zX)
def En.ok (e:En):Prop:=u64 e.head∧((∀ x ∈ e.next,i64 x)∧e.next.length<=17592186043904)∧i64 e.zr
structure Gr where
 jC:Int
 ends : List En
def q7 (g:Gr):List C:=[U g.jC,lE g.ends]
abbrev lG (l:List Gr):C:=.lst 0 2 (l.map q7)
structure Clu where
 name:Str
 jQ:Int
 xG:Int
 zT:List Bool
def jW (c:Clu):List C:=[Tx c.name,I c.jQ,I c.xG,lB c.zT]
abbrev lC (l:List Clu):C:=.lst 0 4 (l.map jW)
structure Rou where
 listen:Str
 host:Str
 path:Str
 zn:Str
def vY (r:Rou):List C:=[Tx r.listen,Tx r.host,Tx r.path,Tx r.zn]
abbrev lO (l:List Rou):C:=.lst 0 4 (l.map vY)
structure Cfg where
 zc:List Str
 zI:List Rou
 zf:List Clu
def zf0 (c:Cfg):List C:=[lT c.zc,lO c.zI,lC c.zf]
structure Rul where
 listen:Int
 host:Str
 path:Str
 zn:Int
def kY (r:Rul):List C:=[I r.listen,Tx r.host,Tx r.path,I r.zn]
abbrev zgo (l:List Rul):C:=.lst 0 4 (l.map kY)
structure Sna where
 zc:List Str
 rules:List Rul
 zf:List Clu
def zba (s:Sna):List C:=[lT s.zc,zgo s.rules,lC s.zf]
structure Ver where
 snap:Sna
 zk:List Gr
 j7:Bool
def qu (v:Ver):List C:=zba v.snap++[lG v.zk,Bo v.j7]
abbrev lV (l:List Ver):C:=.lst 0 5 (l.map qu)
structure Wor where
 zj:Int
 current:Int
 lock:Int
 pins:List Int
 zd:List Ver
 zc:List Lis
 counts:List (List Int)
 zg:List Ret
def jT (r:List Int):List C:=[lU r]
abbrev lCo (l:List (List Int)):C:=.lst 0 1 (l.map jT)
def zU (w:Wor):List C:=[I w.zj,I w.current,I w.lock,lI w.pins,lV w.zd,lL w.zc,lCo w.counts,lR w.zg]
structure Opn where
 kind:Int
 listen:Str
 host:Str
 path:Str
 d0:Int
 d1:Int
 n:Int
 config:Cfg
def zbJ (o:Opn):List C:=[I o.kind,Tx o.listen,Tx o.host,Tx o.path,I o.d0,I o.d1,I o.n]++zf0 o.config
abbrev lP (l:List Opn):C:=.lst 0 10 (l.map zbJ)
structure Six where
 c0:Int
 c1:Int
 c2:Int
 c3:Int
 c4:Int
 c5:Int
def zkn (x:Six):List C:=[U x.c0,U x.c1,U x.c2,U x.c3,U x.c4,U x.c5]
structure Ans where
 kind:Int
 version:Int
 zn:Int
 end_ : Int
 slot:Int
 listen:Int
 n:Int
 counts:Six
def xq (a:Ans):List C:=[I a.kind,I a.version,I a.zn,I a.end_,I a.slot,I a.listen,I a.n]++zkn a.counts
abbrev lA (l:List Ans):C:=.lst 0 13 (l.map xq)
structure Mac where
 op:Opn
 zC:Int
 pc:Int
 zj:Int
 version:Int
 listen:Int
 zn:Int
 end_ : Int
 other:Int
 slot:Int
 word:Int
 link:Int
 i:Int
 k:Int
 sum:Int
 done:Bool
 answer:Ans
 counts:Six
def zW (m:Mac):List C:=zbJ m.op++[I m.zC,I m.pc,I m.zj,I m.version,I m.listen,I m.zn,I m.end_,I m.other,I m.slot,U m.word,I m.link,I m.i,I m.k,I m.sum,Bo m.done]++xq m.answer++zkn m.counts
structure Eve where
 zC:Int
 op:Int
 access:Int
 cell:Int
 version:Int
 j7:Bool
 value:Int
 zln:Bool
 zdg:Bool
 done:Bool
 answer:Ans
def yk (e:Eve):List C:=[I e.zC,I e.op,I e.access,I e.cell,I e.version,Bo e.j7,I e.value,Bo e.zln,Bo e.zdg,Bo e.done]++xq e.answer
structure Cal where
 zC:Int
 op:Int
 from_:Int
 zdg:Int
 to_:Int
 answer:Ans
structure Scr where
 first:Cfg
 threads:List (List Opn)
 zmA:List Int
def zdN (l:List Opn):List C:=[lP l]
abbrev zmo (l:List (List Opn)):C:=.lst 0 1 (l.map zdN)
def zja (s:Scr):List C:=zf0 s.first++[zmo s.threads,lI s.zmA]
end Go.Hy
