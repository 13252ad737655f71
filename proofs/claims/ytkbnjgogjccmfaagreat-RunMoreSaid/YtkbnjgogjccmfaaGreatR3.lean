import Derived.Test.YtkbnjgogjccmfaaGreatR1
set_option linter.all false
set_option maxRecDepth 100000
set_option maxHeartbeats 4000000
namespace Go.Wor
open Go.Ab Go.Proofs Tryz Go.Hy Go.Gat Go.Nam Go.Hos Go.Con Go.Sna
inductive Key
 | slot (i j k s:Int)
 | act (i j k:Int)
 | uz (i:Int)
 | eu (i:Int)
 | lock
def ph (m:uk):Nat:=
 if m.done=true then (if m.op.kind=1∧m.answer.kind=1 then 3 else 0)
 else if m.op.kind=1 then (if 5<=m.pc∧m.pc<=11 then 1 else if m.pc=12 then 2 else if 20<=m.pc then (if m.answer.kind=1 then 3 else if m.pc<=22∧0<=m.listen then 1 else 0) else 0)
 else if m.op.kind=2 then (if m.pc<=2 then 3 else if m.pc=3 then 4 else if m.pc=4 then 1 else 0)
 else if m.op.kind=3 then (if 1<=m.pc then 5 else 0)
 else if m.op.kind=5 then (if 1<=m.pc then 6 else 0)
 else 0
def qc (p:Nat) (i j k s l:Int):Key->Nat
 | .slot i' j' k' s'=>if (p=2∨p=3)∧i=i'∧j=j'∧k=k'∧s=s' then 1 else 0
 | .act i' j' k'=>if (p=3∨p=4)∧i=i'∧j=j'∧k=k' then 1 else 0
 | .uz l'=>if (1<=p∧p<=4)∧l=l' then 1 else 0
 | .eu i'=>if p=5∧i=i' then 1 else 0
 | .lock=>if p=6 then 1 else 0
def jT (m:uk):Key->Nat:=qc (ph m) m.version m.zg m.end_ m.slot m.listen
def iv (a:u3):Key->Nat:=qc 3 a.version a.zg a.end_ a.slot a.listen
def jm {m:uk} {p:Nat} (h:ph m=p):jT m=qc p m.version m.zg m.end_ m.slot m.listen:=by unfold jT;rw [h]
def vW (i j k s l:Int) (x:Key):qc 0 i j k s l x=0:=by cases x <;> simp [qc]
def Us (i j k s l i' j' k' s':Int):qc 1 i j k s l=qc 1 i' j' k' s' l:=by funext x;cases x <;> simp [qc]
def Ut (i j k s l j' k' s' l':Int):qc 5 i j k s l=qc 5 i j' k' s' l':=by funext x;cases x <;> simp [qc]
def Uu (i j k s l i' j' k' s' l':Int):qc 6 i j k s l=qc 6 i' j' k' s' l':=by funext x;cases x <;> simp [qc]
def ej {m:uk} {n:Nat} (hd:m.done=false) (hk:m.op.kind=1) (h:(if 5<=m.pc∧m.pc<=11 then 1 else if m.pc=12 then 2 else if 20<=m.pc then (if m.answer.kind=1 then 3 else if m.pc<=22∧0<=m.listen then 1 else 0) else 0)=n):ph m=n:=by
 unfold ph;rw [dL aI,dO hk];exact h
def fN {m:uk} {n:Nat} (hd:m.done=false) (hk:m.op.kind=2) (h:(if m.pc<=2 then 3 else if m.pc=3 then 4 else if m.pc=4 then 1 else 0)=n):ph m=n:=by
 unfold ph;rw [dL aI,dL aw,dO hk];exact h
def nr {m:uk} {n:Nat} (hd:m.done=false) (hk:m.op.kind=3) (h:(if 1<=m.pc then 5 else 0)=n):ph m=n:=by
 unfold ph;rw [dL aI,dL aw,dL aw,dO hk];exact h
def fJ {m:uk} {n:Nat} (hd:m.done=false) (hk:m.op.kind=5) (h:(if 1<=m.pc then 6 else 0)=n):ph m=n:=by
 unfold ph;rw [dL aI,dL aw,dL aw,dL aw,dO hk];exact h
def Bx {m:uk} (hd:m.done=false) (h1:m.op.kind≠1) (h2:m.op.kind≠2) (h3:m.op.kind≠3) (h5:m.op.kind≠5):ph m=0:=by
 unfold ph;rw [dL aI,dL h1,dL h2,dL h3,dL h5]
def yv {m:uk} (hd:m.done=true) (h:¬(m.op.kind=1∧m.answer.kind=1)):ph m=0:=by
 unfold ph;rw [dO hd,dL h]
def Jm {m:uk} (hd:m.done=true) (hk:m.op.kind=1) (h:m.answer.kind=1):ph m=3:=by
 unfold ph;rw [dO hd,dO ⟨hk,h⟩]
def wD (w:Wor) (i j k:Int):Option En:=if 0<=i∧0<=j∧0<=k then kK w i j k else none
def fq (e:En) (s:Int):Nat:=if 0<=s∧s < e.next.length∧s ∉ (Slp.qx e).1 then 1 else 0
def Has (w:Wor):Key->Nat
 | .slot i j k s=>match wD w i j k with
  | some e=>fq e s
  | none=>0
 | .act i j k=>match wD w i j k with
  | some e=>e.zf.toNat
  | none=>0
 | .uz i=>if 0<=i then (match w.zd[i.toNat]? with
  | some l=>l.zf.toNat
  | none=>0) else 0
 | .eu i=>if 0<=i∧i < w.ze.length∧i≠w.current∧∀ r ∈ w.zr,r.version≠i then 1 else 0
 | .lock=>w.lock.toNat
def Mv (w w':Wor) (a b:Key->Nat):Prop:=∀ x,Has w' x+a x=Has w x+b x
def Ks {w:Wor} {m:uk} {v:uq} {g:Gr} {e:En} (hat:eQ w m v g e):wD w m.version m.zg m.end_=some e:=by
 unfold wD;rw [dO ⟨hat.v0,hat.g0,hat.e0⟩];exact EH hat
def I9 {w:Wor} {m:uk} {v:uq} {g:Gr} {e:En} (hat:eQ w m v g e) (e':En) (tk i j k:Int):wD (iF w m v g e' tk) i j k=if i=m.version∧j=m.zg∧k=m.end_ then some e' else wD w i j k:=by
 have p1:=hat.v0;have p2:=hat.g0;have p3:=hat.e0;unfold wD;rw [Eh hat];by_cases h:0<=i∧0<=j∧0<=k
 ·rw [dO h,dO h];by_cases q:i=m.version∧j=m.zg∧k=m.end_
  ·rw [dO q,dO (by rw [q.1,q.2.1,q.2.2];exact ⟨rfl,rfl,rfl⟩)]
  ·rw [dL q,dL (fun z=>q aw)]
 ·rw [dL h,dL h,dL (fun z=>h aw)]
def H9 {w w':Wor} (h:w'.ze=w.ze) (i j k:Int):wD w' i j k=wD w i j k:=by unfold wD kK;rw [h]
def qg (w:Wor) {a b:Key->Nat} (h:a=b):Mv w w a b:=fun x=>by rw [h]
def Ah {w w':Wor} {a b:Key->Nat} (h1:w'.ze=w.ze) (h2:w'.zd=w.zd) (h3:w'.zr=w.zr) (h4:w'.current=w.current) (h5:w'.lock=w.lock) (h:a=b):Mv w w' a b:=fun x=>by
 rw [h];cases x with
 | slot i j k s=>simp only [Has,H9 h1]
 | act i j k=>simp only [Has,H9 h1]
 | uz i=>simp only [Has,h2]
 | eu i=>simp only [Has,h1,h3,h4]
 | lock=>simp only [Has,h5]
section
variable {w:Wor} {m:uk} {v:uq} {g:Gr} {e e':En} {tk:Int}
def RT (hat:eQ w m v g e) (e':En) (tk:Int) (x:Key):Has (iF w m v g e' tk) x=match x with
  | .slot i j k s=>if i=m.version∧j=m.zg∧k=m.end_ then fq e' s else Has w x
  | .act i j k=>if i=m.version∧j=m.zg∧k=m.end_ then e'.zf.toNat else Has w x
  | x=>Has w x:=by
 cases x with
 | slot i j k s=>
  simp only [Has,I9 hat];by_cases q:i=m.version∧j=m.zg∧k=m.end_
  ·rw [dO q,dO q]
  ·rw [dL q,dL q]
 | act i j k=>
  simp only [Has,I9 hat];by_cases q:i=m.version∧j=m.zg∧k=m.end_
  ·rw [dO q,dO q]
  ·rw [dL q,dL q]
 | uz i=>rfl
 | eu i=>simp only [Has,iF,rq]
 | lock=>rfl
def EX (hat:eQ w m v g e) (s:Int):Has w (.slot m.version m.zg m.end_ s)=fq e s:=by simp only [Has,Ks hat]
def Kv (hat:eQ w m v g e):Has w (.act m.version m.zg m.end_)=e.zf.toNat:=by simp only [Has,Ks hat]
def Bw (hat:eQ w m v g e) {a b:Key->Nat} (hs:∀ s,fq e' s+a (.slot m.version m.zg m.end_ s)=fq e s+b (.slot m.version m.zg m.end_ s)) (ha:e'.zf.toNat+a (.act m.version m.zg m.end_)=e.zf.toNat+b (.act m.version m.zg m.end_))
  (h:∀ x,(∀ s,x≠.slot m.version m.zg m.end_ s)->x≠.act m.version m.zg m.end_->a x=b x):Mv w (iF w m v g e' tk) a b:=fun x=>by
 rw [RT hat];cases x with
 | slot i j k s=>
  dsimp only;by_cases q:i=m.version∧j=m.zg∧k=m.end_
  ·rw [dO q];obtain ⟨rfl,rfl,rfl⟩:=q;rw [EX hat];exact hs s
  ·rw [dL q,h (.slot i j k s) (fun s' z=>q (by cases z;exact ⟨rfl,rfl,rfl⟩)) (fun z=>nomatch z)]
 | act i j k=>
  dsimp only;by_cases q:i=m.version∧j=m.zg∧k=m.end_
  ·rw [dO q];obtain ⟨rfl,rfl,rfl⟩:=q;rw [Kv hat];exact ha
  ·rw [dL q,h (.act i j k) (fun s' z=>nomatch z) (fun z=>q (by cases z;exact ⟨rfl,rfl,rfl⟩))]
 | uz i=>dsimp only;rw [h (.uz i) (fun s' z=>nomatch z) (fun z=>nomatch z)]
 | eu i=>dsimp only;rw [h (.eu i) (fun s' z=>nomatch z) (fun z=>nomatch z)]
 | lock=>dsimp only;rw [h (.lock) (fun s' z=>nomatch z) (fun z=>nomatch z)]
def KE (hat:eQ w m v g e) (hl:e'.next.length=e.next.length) (hf:(Slp.qx e').1=(Slp.qx e).1) (ha:e'.zf=e.zf) {a b:Key->Nat} (h:a=b):Mv w (iF w m v g e' tk) a b:=
 Bw hat (fun s=>by rw [h];unfold fq;rw [hl,hf]) (by rw [h,ha]) fun x _ _=>by rw [h]
def Um (hat:eQ w m v g e) (hl:e'.next.length=e.next.length) {s:Int} (h0:0<=s) (h1:s < e.next.length) (hf:(Slp.qx e).1=s::(Slp.qx e').1) (hn:s ∉ (Slp.qx e').1) (ha:e'.zf=e.zf) (l:Int):Mv w (iF w m v g e' tk) (qc 1 m.version m.zg m.end_ s l) (qc 2 m.version m.zg m.end_ s l):=by
 refine Bw hat (fun t=>?_) (by simp [qc,ha]) fun x q1 q2=>?_
 ·unfold fq;rw [hl,hf];simp only [qc,rj,sK];by_cases q:s=t
  ·subst q;simp [h0,h1,hn]
  ·have q':¬t=s:=fun z=>q z.symm
   simp [q,q']
 ·cases x with
  | slot i j k t=>
   simp only [qc];rw [dL aj,dL (fun z=>q1 t (by rw [z.2.1,z.2.2.1,z.2.2.2.1]))]
  | act i j k=>simp [qc]
  | uz i=>simp [qc]
  | eu i=>simp [qc]
  | lock=>simp [qc]
def TY (hat:eQ w m v g e) (hl:e'.next.length=e.next.length) {s:Int} (h0:0<=s) (h1:s < e.next.length) (hf:(Slp.qx e').1=s::(Slp.qx e).1) (hn:s ∉ (Slp.qx e).1) (ha:e'.zf=e.zf) (l:Int):Mv w (iF w m v g e' tk) (qc 3 m.version m.zg m.end_ s l) (qc 4 m.version m.zg m.end_ s l):=by
 refine Bw hat (fun t=>?_) (by simp [qc,ha]) fun x q1 q2=>?_
 ·unfold fq;rw [hl,hf];simp only [qc,rj,sK];by_cases q:s=t
  ·subst q;simp [h0,h1,hn]
  ·have q':¬t=s:=fun z=>q z.symm
   simp [q,q']
 ·cases x with
  | slot i j k t=>
   simp only [qc];rw [dL (fun z=>q1 t (by rw [z.2.1,z.2.2.1,z.2.2.2.1])),dL aj]
  | act i j k=>simp [qc]
  | uz i=>simp [qc]
  | eu i=>simp [qc]
  | lock=>simp [qc]
def TX (hat:eQ w m v g e) (hl:e'.next.length=e.next.length) (hf:(Slp.qx e').1=(Slp.qx e).1) (h0:0<=e.zf) (ha:e'.zf=e.zf+1) (s l:Int):Mv w (iF w m v g e' tk) (qc 2 m.version m.zg m.end_ s l) (qc 3 m.version m.zg m.end_ s l):=by
 refine Bw hat (fun t=>by unfold fq;rw [hl,hf];simp [qc]) (by simp [qc,ha];omega) fun x q1 q2=>?_
 cases x with
 | slot i j k t=>simp [qc]
 | act i j k=>
  simp only [qc];rw [dL aj,dL (fun z=>q2 (by rw [z.2.1,z.2.2.1,z.2.2.2]))]
 | uz i=>simp [qc]
 | eu i=>simp [qc]
 | lock=>simp [qc]
def TV (hat:eQ w m v g e) (hl:e'.next.length=e.next.length) (hf:(Slp.qx e').1=(Slp.qx e).1) (h0:1<=e.zf) (ha:e'.zf=e.zf - 1) (s l:Int):Mv w (iF w m v g e' tk) (qc 4 m.version m.zg m.end_ s l) (qc 1 m.version m.zg m.end_ s l):=by
 refine Bw hat (fun t=>by unfold fq;rw [hl,hf];simp [qc]) (by simp [qc,ha];omega) fun x q1 q2=>?_
 cases x with
 | slot i j k t=>simp [qc]
 | act i j k=>
  simp only [qc];rw [dL (fun z=>q2 (by rw [z.2.1,z.2.2.1,z.2.2.2])),dL aj]
 | uz i=>simp [qc]
 | eu i=>simp [qc]
 | lock=>simp [qc]
end
def FO {w:Wor} {i:Int} {x y:ec} (hi:0<=i) (hx:w.zd[i.toNat]?= some x) {a b:Key->Nat} (h0:y.zf.toNat+a (.uz i)=x.zf.toNat+b (.uz i)) (h:∀ k,k≠.uz i->a k=b k):Mv w { w with zd:=w.zd.set i.toNat y } a b:=fun k=>by
 cases k with
 | uz n=>
  by_cases q:n=i
  ·subst q;simp only [Has];rw [dO hi,dO hi,dQ (dJ.1 hx).1,hx];exact h0
  ·rw [h (.uz n) (fun z=>q (by cases z;rfl))];simp only [Has];by_cases n0:0<=n
   ·rw [dO n0,dO n0,pa aw]
   ·rw [dL n0,dL n0]
 | slot a' b' c s=>rw [h (.slot a' b' c s) (fun z=>nomatch z)];rfl
 | act a' b' c=>rw [h (.act a' b' c) (fun z=>nomatch z)];rfl
 | eu n=>rw [h (.eu n) (fun z=>nomatch z)];rfl
 | lock=>rw [h .lock (fun z=>nomatch z)];rfl
def R5 {w:Wor} {i:Int} {x y:ec} (hi:0<=i) (hx:w.zd[i.toNat]?= some x) (h0:0<=x.zf) (hy:y.zf=x.zf+1) (a b c d a' b' c' d' l:Int):Mv w { w with zd:=w.zd.set i.toNat y } (qc 0 a b c d l) (qc 1 a' b' c' d' i):=by
 refine FO hi hx (by simp [qc];omega) fun k q=>?_
 cases k with
 | uz n=>simp only [qc];rw [dL aj,dL (fun z=>q (by rw [z.2]))]
 | slot a' b' c s=>simp [qc]
 | act a' b' c=>simp [qc]
 | eu n=>simp [qc]
 | lock=>simp [qc]
def J9 {w:Wor} {i:Int} {x y:ec} (hi:0<=i) (hx:w.zd[i.toNat]?= some x) (h0:1<=x.zf) (hy:y.zf=x.zf - 1) (a b c d a' b' c' d' l:Int):Mv w { w with zd:=w.zd.set i.toNat y } (qc 1 a b c d i) (qc 0 a' b' c' d' l):=by
 refine FO hi hx (by simp [qc];omega) fun k q=>?_
 cases k with
 | uz n=>simp only [qc];rw [dL (fun z=>q (by rw [z.2])),dL aj]
 | slot a' b' c s=>simp [qc]
 | act a' b' c=>simp [qc]
 | eu n=>simp [qc]
 | lock=>simp [qc]
def IL {w:Wor} {i:Int} {x y:ec} (hi:0<=i) (hx:w.zd[i.toNat]?= some x) (hy:y.zf=x.zf) {a b:Key->Nat} (h:a=b):Mv w { w with zd:=w.zd.set i.toNat y } a b:=
 FO hi hx (by rw [h,hy]) fun _ _=>by rw [h]
def vQ {m m':uk} (h:ph m=0) (h':ph m'=0):jT m=jT m':=by
 funext x
 rw [jm h,jm h',vW,vW]
def kU {m m':uk} (h:ph m=1) (h':ph m'=1) (hl:m'.listen=m.listen):jT m=jT m':=by
 rw [jm h,jm h',hl];exact Us ..
def AA {p:Nat} {m m':uk} (h:ph m=p) (h':ph m'=p) (h1:m'.version=m.version) (h2:m'.zg=m.zg) (h3:m'.end_=m.end_) (h4:m'.slot=m.slot) (h5:m'.listen=m.listen):jT m=jT m':=by
 rw [jm h,jm h',h1,h2,h3,h4,h5]
def UR {m m':uk} (h:ph m=5) (h':ph m'=5) (hl:m'.version=m.version):jT m=jT m':=by
 rw [jm h,jm h',hl];exact Ut ..
def vR {m m':uk} (h:ph m=6) (h':ph m'=6):jT m=jT m':=by
 rw [jm h,jm h'];exact Uu ..
def mG {w w':Wor} {m m':uk} {p p':Nat} (h:ph m=p) (h':ph m'=p') (x:Mv w w' (qc p m.version m.zg m.end_ m.slot m.listen) (qc p' m'.version m'.zg m'.end_ m'.slot m'.listen)):Mv w w' (jT m) (jT m'):=by
 rw [jm h,jm h'];exact x
def iy (e:En):Int:=e.head / 4294967296
def nV (N:Nat) (e:En):Prop:=iy e<=N∧∀ x ∈ e.next, -1<=x∧x<=3
def Tg (N:Nat) (w:Wor):Prop:=∀ v ∈ w.ze,∀ g ∈ v.zm,∀ e ∈ g.ends,nV N e
def Tg.mono {N N':Nat} {w:Wor} (h:Tg N w) (hN:N<=N'):Tg N' w:=fun v hv g hg e he=>⟨by have:=(h v hv g hg e he).1;omega,(h v hv g hg e he).2⟩
structure oW (e e':En) (o:Int->Nat):Prop where
 len:e'.next.length=e.next.length
 tag:iy e<=iy e'
 head:iy e'=iy e->e'.head=e.head
 next:∀ s,0<=s->o s=0->e'.next[s.toNat]?= e.next[s.toNat]?
def oW.refl (e:En) (o:Int->Nat):oW e e o:=⟨rfl,gd _,fun _=>rfl,fun _ _ _=>rfl⟩
structure Az (g g':Gr) (o:Nat->Int->Nat):Prop where
 len:g'.ends.length=g.ends.length
 ends : ∀ (k : Nat) e e', g.ends[k]? = some e -> g'.ends[k]? = some e' -> oW e e' (o k)
def Az.refl (g:Gr) (o:Nat->Int->Nat):Az g g o:=⟨rfl,fun k e e' h h'=>by rw [h] at h';cases h';exact oW.refl e _⟩
structure nF (v v':uq) (o:Nat->Nat->Int->Nat):Prop where
 snap:v'.snap=v.snap
 len:v'.zm.length=v.zm.length
 np:∀ (j:Nat) g g',v.zm[j]?= some g->v'.zm[j]?= some g'->Az g g' (o j)
def nF.refl (v:uq) (o:Nat->Nat->Int->Nat):nF v v o:=⟨rfl,rfl,fun j g g' h h'=>by rw [h] at h';cases h';exact Az.refl g _⟩
structure jN (w w':Wor) (o:Key->Nat):Prop where
 zn:w.zn<=w'.zn
 pins:w'.pins.length=w.pins.length
 counts:w'.counts.length=w.counts.length
 fX:w.ze.length<=w'.ze.length
 eu:∀ (i:Nat) v v',w.ze[i]?= some v->w'.ze[i]?= some v'->nF v v' fun j k s=>o (.slot i j k s)
 uz:w'.zd.length=w.zd.length
 wo:∀ (i:Nat) l l',w.zd[i]?= some l->w'.zd[i]?= some l'->l'.name=l.name∧(l.drain=true->l'.drain=true)
 fH:w.zr.length<=w'.zr.length
 zr:∀ (i:Nat) r r',w.zr[i]?= some r->w'.zr[i]?= some r'->r'.version=r.version∧r'.at_=r.at_∧(o .lock=0->r'.gone=r.gone)
def ji {α:Type} {l:List α} {i:Nat} {x y:α} (h:l[i]?= some x) (h':l[i]?= some y):y=x:=by rw [h] at h';cases h';rfl
def xL {w w':Wor} {o:Key->Nat} (h0:w.zn<=w'.zn) (h1:w'.pins.length=w.pins.length) (h2:w'.counts.length=w.counts.length) (h3:w'.ze=w.ze) (h4:w'.zd=w.zd) (h5:w'.zr=w.zr):jN w w' o:=by
 refine ⟨h0,h1,h2,by rw [h3];exact dU _,fun i v v' h h'=>?_,by rw [h4],fun i l l' h h'=>?_,by rw [h5];exact dU _,fun i r r' h h'=>?_⟩
 ·rw [h3] at h';rw [ji h h'];exact nF.refl v _
 ·rw [h4] at h';rw [ji h h'];exact ⟨rfl,id⟩
 ·rw [h5] at h';rw [ji h h'];exact dE
def jN.refl (w:Wor) (o:Key->Nat):jN w w o:=xL (gd _) rfl rfl rfl rfl rfl
def ky {w:Wor} {m:uk} {v:uq} {g:Gr} {e e':En} {tk:Int} {o:Key->Nat} (hat:eQ w m v g e) (h:oW e e' fun s=>o (.slot m.version m.zg m.end_ s)):jN w (iF w m v g e' tk) o:=by
 have p1:=hat.v0;have p2:=hat.g0;have p3:=hat.e0;refine ⟨gd _,rfl,rfl,by show _<=(w.ze.set _ _).length;rw [rq];exact dU _,fun i v1 v2 h1 h2=>?_,rfl,fun i l l' h1 h2=>?_,dU _,fun i r r' h1 h2=>?_⟩
 ·rcases yt h2 with ⟨rfl,rfl,_⟩ | ⟨_,h2⟩
  ·rw [ji hat.at_ h1];refine ⟨rfl,aj,fun j g1 g2 h3 h4=>?_⟩;rcases yt h4 with ⟨rfl,rfl,_⟩ | ⟨_,h4⟩
   ·rw [ji hat.u9 h3];refine ⟨aj,fun k e1 e2 h5 h6=>?_⟩;rcases yt h6 with ⟨rfl,rfl,_⟩ | ⟨_,h6⟩
    ·rw [ji hat.eE h5,pM p1,pM p2,pM p3];exact h
    ·rw [ji h5 h6];exact oW.refl e1 _
   ·rw [ji h3 h4];exact Az.refl g1 _
  ·rw [ji h1 h2];exact nF.refl v1 _
 ·rw [ji h1 h2];exact ⟨rfl,id⟩
 ·rw [ji h1 h2];exact dE
def Be {w:Wor} {i:Nat} {x y:ec} {o:Key->Nat} (hx:w.zd[i]?= some x) (hn:y.name=x.name) (hd:x.drain=true->y.drain=true):jN w { w with zd:=w.zd.set i y } o:=by
 refine ⟨gd _,rfl,rfl,dU _,fun i v1 v2 h1 h2=>?_,aj,fun j l l' h1 h2=>?_,dU _,fun i r r' h1 h2=>?_⟩
 ·rw [ji h1 h2];exact nF.refl v1 _
 ·rcases yt h2 with ⟨rfl,rfl,_⟩ | ⟨_,h2⟩
  ·rw [ji hx h1];exact ⟨hn,hd⟩
  ·rw [ji h1 h2];exact ⟨rfl,id⟩
 ·rw [ji h1 h2];exact dE
def JS {α:Type} {l l2:List α} {i:Nat} {x y:α} (h:l[i]?= some x) (h':(l++l2)[i]?= some y):y=x:=by
 rw [dR (dJ.1 h).1] at h';exact ji h h'
def Qu {w:Wor} {v:uq} {n:Int} {o:Key->Nat}:jN w { w with current:=n,ze:=w.ze++[v] } o:=by
 refine ⟨gd _,rfl,rfl,aj,fun i v1 v2 h1 h2=>?_,rfl,fun i l l' h1 h2=>?_,dU _,fun i r r' h1 h2=>?_⟩
 ·rw [JS h1 h2];exact nF.refl v1 _
 ·rw [ji h1 h2];exact ⟨rfl,id⟩
 ·rw [ji h1 h2];exact dE
def R0 {w:Wor} {x:u7} {o:Key->Nat}:jN w { w with zr:=w.zr++[x] } o:=by
 refine ⟨gd _,rfl,rfl,dU _,fun i v1 v2 h1 h2=>?_,rfl,fun i l l' h1 h2=>?_,aj,fun i r r' h1 h2=>?_⟩
 ·rw [ji h1 h2];exact nF.refl v1 _
 ·rw [ji h1 h2];exact ⟨rfl,id⟩
 ·rw [JS h1 h2];exact dE
def PC {w:Wor} {i k:Nat} {v:uq} {x:u7} {o:Key->Nat} (ho:o .lock=1) (hv:w.ze[k]?= some v) (hx:w.zr[i]?= some x):jN w { w with ze:=w.ze.set k (nB v),zr:=w.zr.set i (kP x) } o:=by
 refine ⟨gd _,rfl,rfl,aj,fun j v1 v2 h1 h2=>?_,rfl,fun i l l' h1 h2=>?_,aj,fun j r r' h1 h2=>?_⟩
 ·rcases yt h2 with ⟨rfl,rfl,_⟩ | ⟨_,h2⟩
  ·rw [ji hv h1];exact ⟨rfl,rfl,fun j g g' h3 h4=>by rw [ji h3 (show v.zm[j]?= some g' from h4)];exact Az.refl g _⟩
  ·rw [ji h1 h2];exact nF.refl v1 _
 ·rw [ji h1 h2];exact ⟨rfl,id⟩
 ·rcases yt h2 with ⟨rfl,rfl,_⟩ | ⟨_,h2⟩
  ·rw [ji hx h1];exact ⟨rfl,rfl,fun z=>by omega⟩
  ·rw [ji h1 h2];exact dE
structure fe (w:Wor) (m:uk) (v:uq) (g:Gr) (e:En):Prop where
 pc:(0<=m.pc∧m.pc<=12)∨(20<=m.pc∧m.pc<=23)
 ep:m.pc=1∨m.pc=2->0<=m.zn∧m.zn<=w.zn
 uz:(4<=m.pc∧m.pc<=12)∨m.pc=22->0<=m.listen
 early:4<=m.pc∧m.pc<=5->m.zg=0∧m.end_=0∧m.other=0
 nX:4<=m.pc∧m.pc<=8->m.slot=0
 draw:m.pc=6->∃ c,v.snap.zk[m.zg.toNat]?= some c∧(uj c).length≠0
 slot:m.pc=10∨m.pc=11->m.slot=zC m.word∧m.word / 4294967296<=iy e
 link:m.pc=11->e.head=m.word->e.next[m.slot.toNat]?= some m.link
 iO:20<=m.pc->1<=m.answer.kind∧m.answer.kind<=5∧(m.answer.kind=1->m.answer=Ao m∧0<=m.listen)
 kind:m.pc=22->m.answer.kind≠1
structure DI (w:Wor) (m:uk) (v:uq) (g:Gr) (e:En):Prop where
 pc:(0<=m.pc∧m.pc<=4)∨m.pc=9
 uz:m.pc<=4->0<=m.listen
 tag:m.pc=1∨m.pc=2->m.word / 4294967296<=iy e∧zC m.word<=3
 next:m.pc=2->e.next[m.slot.toNat]?= some (zC m.word)
structure DJ (w:Wor) (m:uk) (v:uq) (g:Gr) (e:En):Prop where
 pc:0<=m.pc∧m.pc<=2
 ep:m.pc=2->0<=m.zn∧m.zn<=w.zn
structure B4 (w:Wor) (m:uk) (v:uq) (g:Gr) (e:En):Prop where
 pc:(0<=m.pc∧m.pc<=6)∨(8<=m.pc∧m.pc<=10)
 iT:m.pc=2->m.i < w.pins.length
 fH:m.pc=5∨m.pc=6->∃ r,w.zr[m.i.toNat]?= some r∧r.version=m.version∧r.gone=false
 act:m.pc=5->m.k < (yd v).length
 uz:m.pc=9∨m.pc=10->∃ l,w.zd[m.i.toNat]?= some l∧l.drain=true
structure AT (w:Wor) (m:uk) (v:uq) (g:Gr) (e:En):Prop where
 pc:m.pc=0
 k:m.k < 6
 i:m.i < w.counts.length
def Lc (w:Wor) (m:uk) (v:uq) (g:Gr) (e:En):Prop:=(m.op.kind=1∧fe w m v g e)∨(m.op.kind=2∧DI w m v g e)∨(m.op.kind=3∧DJ w m v g e)∨(m.op.kind=4∧m.pc=0)∨(m.op.kind=5∧B4 w m v g e)∨(m.op.kind=6∧AT w m v g e)
def fY (m:uk):Prop:=1<=m.answer.kind∧m.answer.kind<=5∧(m.answer.kind=1->m.answer=Ao m∧0<=m.listen)
abbrev La (m:uk):u3:=⟨6,m.version,m.zg,m.end_,m.slot,m.listen,0,⟨0,0,0,0,0,0⟩⟩
def GF (m:uk):Prop:=m.answer=La m∧m.pc=4∨m.answer=ib 7∧m.pc=9
def oE (m:uk):Prop:=7<=m.answer.kind∧m.answer.kind<=13
def DH (m:uk):Prop:=(m.op.kind=1∧fY m)∨(m.op.kind=2∧GF m)∨(3<=m.op.kind∧m.op.kind<=6∧oE m)
structure Nc (N K:Nat) (w:Wor) (m:uk) (L:Wor->uk->uq->Gr->En->Prop) (F:uk->Prop) (r:Wor × uk × uv):Prop where
 ev:r.2.2.access≠0
 st:St (N+1) (K+1) r.1
 tg:Tg (N+1) r.1
 tm:eJ r.2.1
 op:r.2.1.op=m.op
 th:r.2.1.zj=m.zj
 keep:jN w r.1 (jT m)
 mv:Mv w r.1 (jT m) (jT r.2.1)
 go:(r.2.1.done=true∧F r.2.1)∨∃ v g e,qH r.1 r.2.1 v g e∧L r.1 r.2.1 v g e
def Ap {N:Nat} {w:Wor} {m:uk} {v:uq} {g:Gr} {e e':En} {tk:Int} (h:Tg N w) (hat:eQ w m v g e) (h':nV N e'):Tg N (iF w m v g e' tk):=fun v2 hv g2 hg e2 he=>by
 have mv:=dM hat.at_;have mg:=dM hat.u9;rcases mem_set hv with hv | rfl
 ·exact h v2 hv g2 hg e2 he
 ·rcases mem_set hg with hg | rfl
  ·exact h v mv g2 hg e2 he
  ·rcases mem_set he with he | rfl
   ·exact h v mv g mg e2 he
   ·exact h'
def AF {N:Nat} {w:Wor} {m:uk} {v:uq} {g:Gr} {e:En} (h:Tg N w) (hat:eQ w m v g e):nV N e:=h v (dM hat.at_) g (dM hat.u9) e (dM hat.eE)
section
variable {N K:Nat} {w:Wor} {m:uk} {v:uq} {g:Gr} {e:En}
def Tw (st:St N K w) (tg:Tg N w) (su:qH w m v g e) (tm:eJ m) (lo:fe w m v g e) (hk:m.op.kind=1) (h3:m.pc < 3):∃ r,qf w m v g e=some r∧Nc N K w m fe fY r:=by
 have gw:=st.jl;have ge:=qa.1 gw.ground;have hep:=ge.zn;have st1:St (N+1) (K+1) w:=st.mono aw aw;have tg1:=tg.mono (pz N);have lp:=lo.pc;unfold qf;rw [dO h3];unfold o9;rcases (by omega:m.pc=0∨m.pc=1∨m.pc=2) with p | p | p
 ·rw [dO p];exact zM rfl ⟨uW,st1,tg1,uO,rfl,rfl,jN.refl w _,qg w (vQ (ej su.done hk uM) (ej su.done hk uM)),.inr ⟨v,g,e,uQ,⟨uL,fun _=>⟨hep.1,gd _⟩,uK,uK,uK,uK,uK,uK,uK,uK⟩⟩⟩
 ·have he:=lo.ep (.inl p);have hw:IntKind.i64.wrap (m.zn+1)=m.zn+1:=qZ aw aw;rw [dL aw,dO p,hw];have sp:=st1.iT m.zj.toNat (p:=m.zn+1) aw aw
  exact zM rfl ⟨tI,sp,tg1,uO,rfl,rfl,xL (gd _) aj rfl rfl rfl rfl,Ah rfl rfl rfl rfl rfl (vQ (ej su.done hk uM) (ej su.done hk uM)),.inr ⟨v,g,e,⟨qi.2 sp.jl,aq su.zj,su.done,su.version,su.eF,su.zg,su.u9,su.end_,su.eE,su.other,su.slot,su.listen,su.i,su.k⟩,
   ⟨uL,fun _=>he,uK,uK,uK,uK,uK,uK,uK,uK⟩⟩⟩
 ·rw [dL aw,dL aw,dO p];by_cases q:w.zn=m.zn
  ·rw [dO q];exact zM rfl ⟨uW,st1,tg1,uO,rfl,rfl,jN.refl w _,qg w (vQ (ej su.done hk uM) (ej su.done hk uM)),.inr ⟨v,g,e,uQ,⟨uL,uK,uK,uK,uK,uK,uK,uK,uK,uK⟩⟩⟩
  ·rw [dL q];exact zM rfl ⟨uW,st1,tg1,uO,rfl,rfl,jN.refl w _,qg w (vQ (ej su.done hk uM) (ej su.done hk uM)),.inr ⟨v,g,e,uQ,⟨uL,fun _=>⟨hep.1,gd _⟩,uK,uK,uK,uK,uK,uK,uK,uK⟩⟩⟩
def T7 (st:St N K w) (tg:Tg N w) (su:qH w m v g e) (tm:eJ m) (lo:fe w m v g e) (hk:m.op.kind=1) (hN:N<=100000000) (p:m.pc=3):∃ r,qf w m v g e=some r∧Nc N K w m fe fY r:=by
 have gw:=st.jl;have st1:St (N+1) (K+1) w:=st.mono aw aw;have tg1:=tg.mono (pz N);have pr:=D3 w.zd m.op.listen;have hl:=st.ty.uz;have cu:=gw.current;obtain ⟨v',hv'⟩:∃ v',w.ze[w.current.toNat]?= some v':=⟨_,dK aw⟩;have gv:=(gw.eu _ v' hv').1;have h0:0 < v'.zm.length:=aE
 obtain ⟨g',e',hg,he,l1,l2⟩:=vH gv h0;unfold qf;rw [dL aw,dO p];by_cases q:zT w.zd m.op.listen < 0
 ·rw [dO q];refine zM rfl ⟨uW,st1,tg1,⟨aJ,tm.word,tm.link,tm.host,tm.path,tm.d0,tm.d1,tm.cfg,(fun h=>absurd ((show m.op.kind=6 from h).symm.trans hk) ar)⟩,rfl,rfl,jN.refl w _,qg w (vQ (ej su.done hk uM) (ej su.done hk ?_)),.inr ⟨v',g',e',⟨su.world,su.zj,su.done,cu,hv',⟨gd _,aK⟩,hg,⟨gd _,aK⟩,he,⟨gd _,aK⟩,⟨gd _,aK⟩,pr,su.i,su.k⟩,⟨uL,uK,uK,uK,uK,uK,uK,uK,fun _=>⟨by show (1:Int)<=2;decide,by show (2:Int)<=5;decide,fun h=>absurd (show (2:Int)=1 from h) ar⟩,uK⟩⟩⟩;dsimp only;(repeat' split) <;> omega
 ·rw [dL q]
  exact zM rfl ⟨uW,st1,tg1,⟨aJ,tm.word,tm.link,tm.host,tm.path,tm.d0,tm.d1,tm.cfg,tm.iO⟩,rfl,rfl,jN.refl w _,qg w (vQ (ej su.done hk uM) (ej su.done hk uM)),.inr ⟨v',g',e',⟨su.world,su.zj,su.done,cu,hv',⟨gd _,aK⟩,hg,⟨gd _,aK⟩,he,⟨gd _,aK⟩,⟨gd _,aK⟩,pr,su.i,su.k⟩,
   ⟨uL,uK,fun _=>by show 0<=zT w.zd m.op.listen;omega,fun _=>⟨rfl,rfl,rfl⟩,fun _=>rfl,uK,uK,uK,uK,uK⟩⟩⟩
def T8 (st:St N K w) (tg:Tg N w) (su:qH w m v g e) (tm:eJ m) (lo:fe w m v g e) (hk:m.op.kind=1) (hK:K<=1099511627776) (p:m.pc=4):∃ r,qf w m v g e=some r∧Nc N K w m fe fY r:=by
 have gw:=st.jl;have tg1:=tg.mono (pz N);have l0:=lo.uz (.inl aw);have sl:=su.listen;obtain ⟨x,hx⟩:∃ x,w.zd[m.listen.toNat]?= some x:=⟨_,dK aw⟩;have li:=C1 (gw.uz _ x hx).1;have ca:=st.fi.uz x (dM hx);have hw:IntKind.i64.wrap (x.zf+1)=x.zf+1:=qZ aw aw;have st2:=Fu st su hx (x.zf+1) aw aw hK;unfold qf lD;rw [dL aw,dL aw,dO p,dL aw,hx,dV];unfold Lg;rw [hw]
 exact zM rfl ⟨tM,st2,tg1,uO,rfl,rfl,Be hx rfl id,mG (p:=0) (p':=1) (ej su.done hk uM) (ej su.done hk uM) (R5 l0 hx li.2.1 rfl _ _ _ _ _ _ _ _ _),.inr ⟨v,g,e,⟨qi.2 st2.jl,su.zj,su.done,su.version,su.eF,su.zg,su.u9,su.end_,su.eE,su.other,su.slot,aq su.listen,su.i,su.k⟩,
  ⟨uL,uK,fun _=>l0,fun _=>lo.early aw,fun _=>lo.nX aw,uK,uK,uK,uK,uK⟩⟩⟩
def T9 (st:St N K w) (tg:Tg N w) (su:qH w m v g e) (tm:eJ m) (lo:fe w m v g e) (hk:m.op.kind=1) (p:m.pc=5):∃ r,qf w m v g e=some r∧Nc N K w m fe fY r:=by
 have gw:=st.jl;have st1:St (N+1) (K+1) w:=st.mono aw aw;have tg1:=tg.mono (pz N);have l0:=lo.uz (.inl aw);have sl:=su.listen;obtain ⟨x,hx⟩:∃ x,w.zd[m.listen.toNat]?= some x:=⟨_,dK aw⟩;obtain ⟨z1,z2,z3⟩:=lo.early aw;have z4:=lo.nX aw;have gv:=(gw.eu _ v su.eF).1;unfold qf lD;rw [dL aw,dL aw,dL aw,dO p,dL aw,hx,dV];cases hd:x.drain
 ·simp only [rO,if_false];obtain ⟨c0,c,hc⟩:=JZ gv.snap m.op.listen m.op.host m.op.path;by_cases f:(xe m v).2=0
  ·have glt:(xe m v).1.toNat < v.zm.length:=by have:=(dJ.1 hc).1;have:=gv.len;show (nA v.snap m.op.listen m.op.host m.op.path).1.toNat < _;omega
   obtain ⟨g',e',hg,he,q1,q2⟩:=vH gv glt;have c0':0<=(xe m v).1:=c0;have su':∀ pc an,qH w { m with zg:=(xe m v).1,pc:=pc,answer:=an } v g' e':=fun pc an=>⟨su.world,su.zj,su.done,su.version,su.eF,⟨c0',by show (xe m v).1 < _;omega⟩,hg,⟨by show 0<=m.end_;omega,by show m.end_ < _;omega⟩,by show g'.ends[m.end_.toNat]?= _;rw [z2];exact he,⟨by show 0<=m.other;omega,by show m.other < _;omega⟩,⟨aL,aM⟩,su.listen,su.i,su.k⟩
   by_cases d:(yy c m.op.d0 m.op.d1).2.2=0
   ·have hn:(uj c).length≠0:=by
     intro hz;unfold yy at d;rw [dO hz] at d;cases d
    by_cases po:c.xx=1
    ·rw [Iy f hc d po];exact zM rfl ⟨uW,st1,tg1,uO,rfl,rfl,jN.refl w _,qg w (kU (ej su.done hk uM) (ej su.done hk uM) rfl),.inr ⟨v,g',e',su' 6 m.answer,⟨uL,uK,fun _=>l0,uK,fun _=>z4,fun _=>⟨c,hc,hn⟩,uK,uK,uK,uK⟩⟩⟩
    ·rw [Iz f hc d po];have gl:=(gv.np _ g' c hg hc).1;have dv:yy c m.op.d0 m.op.d1=(xU c m.op.d0,xU c m.op.d1,0):=by unfold yy;rw [dL hn]
     have r0:=FR (n:=m.op.d0) hn;have r1:=FR (n:=m.op.d1) hn;have d1:(yy c m.op.d0 m.op.d1).1=xU c m.op.d0:=by rw [dv]
     have d2:(yy c m.op.d0 m.op.d1).2.1=xU c m.op.d1:=by rw [dv]
     rw [d1,d2];have r0':0<=xU c m.op.d0∧xU c m.op.d0 < c.zL.length:=r0;have r1':0<=xU c m.op.d1∧xU c m.op.d1 < c.zL.length:=r1;obtain ⟨e2,he2⟩:∃ e2,g'.ends[(xU c m.op.d0).toNat]?= some e2:=⟨_,dK aw⟩;have n2:=((gv.fE.2 g' (dM hg)).2.2 e2 (dM he2)).2
     exact zM rfl ⟨uW,st1,tg1,uO,rfl,rfl,jN.refl w _,qg w (kU (ej su.done hk uM) (ej su.done hk uM) rfl),.inr ⟨v,g',e2,⟨su.world,su.zj,su.done,su.version,su.eF,⟨c0',by show (xe m v).1 < _;omega⟩,hg,⟨r0'.1,by show xU c m.op.d0 < _;omega⟩,he2,⟨r1'.1,by show xU c m.op.d1 < _;omega⟩,⟨aL,aM⟩,su.listen,su.i,su.k⟩,
      ⟨uL,uK,fun _=>l0,uK,fun _=>z4,uK,uK,uK,uK,uK⟩⟩⟩
   ·rw [HA f hc d];exact zM rfl ⟨uW,st1,tg1,uP,rfl,rfl,jN.refl w _,qg w (kU (ej su.done hk uM) (ej su.done hk uM) rfl),.inr ⟨v,g',e',su' 20 (ib 3),⟨uL,uK,uK,uK,uK,uK,uK,uK,fun _=>⟨by show (1:Int)<=3;decide,by show (3:Int)<=5;decide,fun h=>absurd (show (3:Int)=1 from h) ar⟩,uK⟩⟩⟩
  ·rw [Jq f];exact zM rfl ⟨uW,st1,tg1,uP,rfl,rfl,jN.refl w _,qg w (kU (ej su.done hk uM) (ej su.done hk uM) rfl),.inr ⟨v,g,e,uQ,⟨uL,uK,uK,uK,uK,uK,uK,uK,fun _=>⟨by show (1:Int)<=2;decide,by show (2:Int)<=5;decide,fun h=>absurd (show (2:Int)=1 from h) ar⟩,uK⟩⟩⟩
 ·simp only [if_true];exact zM rfl ⟨uW,st1,tg1,uP,rfl,rfl,jN.refl w _,qg w (kU (ej su.done hk uM) (ej su.done hk uM) rfl),.inr ⟨v,g,e,uQ,⟨uL,uK,uK,uK,uK,uK,uK,uK,fun _=>⟨by show (1:Int)<=5;decide,by show (5:Int)<=5;decide,fun h=>absurd (show (5:Int)=1 from h) ar⟩,uK⟩⟩⟩
def Ua (st:St N K w) (tg:Tg N w) (su:qH w m v g e) (tm:eJ m) (lo:fe w m v g e) (hk:m.op.kind=1) (p:m.pc=6):∃ r,qf w m v g e=some r∧Nc N K w m fe fY r:=by
 have gw:=st.jl;have tg1:=tg.mono (pz N);obtain ⟨f1,f2,f3,f4,f5,f6,f7⟩:=vj st su;have gv:=(gw.eu _ v su.eF).1;obtain ⟨c,hc,hn⟩:=lo.draw p;have l0:=lo.uz (.inl aw);have z:=lo.nX aw;have gl:=(gv.np _ g c su.u9 hc).1;have tr:=FR (n:=g.zt) hn;have tv:(lx c g.zt).1=((uj c)[(g.zt % (uj c).length).toNat]?).getD 0:=by unfold lx;rw [dL hn]
 rw [<- tv] at tr;obtain ⟨e2,he2⟩:∃ e2,g.ends[(lx c g.zt).1.toNat]?= some e2:=⟨_,dK aw⟩;have n2:=((gv.fE.2 g (dM su.u9)).2.2 e2 (dM he2)).2;have st2:=(st.mono aw aw:St (N+1) (K+1) w).iz su.at_ (e':=qq e e.head e.zf) (tk:=IntKind.u64.wrap (g.zt+1)) f1 rfl f6 (SM _) aN;have eset:g.ends.set m.end_.toNat (qq e e.head e.zf)=g.ends:=yp _ _ su.eE;have s1:=(dJ.1 su.eF).1;have s2:=(dJ.1 su.u9).1;have so:=su.other;unfold qf;rw [dL aw,dL aw,dL aw,dL aw,dO p,hc,dV]
 exact zM rfl ⟨tM,st2,Ap tg1 su.at_ (e':=qq e e.head e.zf) (AF tg1 su.at_),uO,rfl,rfl,ky su.at_ (e':=qq e e.head e.zf) (oW.refl e _),KE su.at_ (e':=qq e e.head e.zf) rfl rfl rfl (kU (ej su.done hk uM) (ej su.done hk uM) rfl),.inr ⟨_,_,e2,⟨qi.2 st2.jl,su.zj,su.done,aq su.version,dQ s1,aq su.zg,dQ s2,⟨tr.1,by show _ < (((g.ends.set m.end_.toNat (qq e e.head e.zf)).length:Nat):Int);rw [eset];show (lx c g.zt).1 < _;omega⟩,by show (g.ends.set m.end_.toNat (qq e e.head e.zf))[(lx c g.zt).1.toNat]?= some e2;rw [eset];exact he2,aq so,⟨aL,aM⟩,su.listen,su.i,su.k⟩,
  ⟨uL,uK,fun _=>l0,uK,uK,uK,uK,uK,uK,uK⟩⟩⟩
def Ub (st:St N K w) (tg:Tg N w) (su:qH w m v g e) (tm:eJ m) (lo:fe w m v g e) (hk:m.op.kind=1) (p:m.pc=7):∃ r,qf w m v g e=some r∧Nc N K w m fe fY r:=by
 obtain ⟨f1,f2,f3,f4,f5,f6,f7⟩:=vj st su;have l0:=lo.uz (.inl aw);unfold qf;rw [dL aw,dL aw,dL aw,dL aw,dL aw,dO p]
 exact zM rfl ⟨uW,st.mono aw aw,tg.mono (pz N),uO,rfl,rfl,jN.refl w _,qg w (kU (ej su.done hk uM) (ej su.done hk uM) rfl),.inr ⟨v,g,e,⟨su.world,su.zj,su.done,su.version,su.eF,su.zg,su.u9,su.end_,su.eE,su.other,su.slot,su.listen,f4,su.k⟩,
  ⟨uL,uK,fun _=>l0,uK,fun _=>lo.nX aw,uK,uK,uK,uK,uK⟩⟩⟩
def Uc (st:St N K w) (tg:Tg N w) (su:qH w m v g e) (tm:eJ m) (lo:fe w m v g e) (hk:m.op.kind=1) (p:m.pc=8):∃ r,qf w m v g e=some r∧Nc N K w m fe fY r:=by
 have gv:=(st.jl.eu _ v su.eF).1;have tg1:=tg.mono (pz N);have l0:=lo.uz (.inl aw);have z:=lo.nX aw;have so:=su.other;obtain ⟨e2,he2⟩:∃ e2,g.ends[m.other.toNat]?= some e2:=⟨_,dK aw⟩;have n2:=((gv.fE.2 g (dM su.u9)).2.2 e2 (dM he2)).2;unfold qf;rw [dL aw,dL aw,dL aw,dL aw,dL aw,dL aw,dO p,he2,dV];by_cases q:e2.zf < m.i
 ·rw [dO q]
  exact zM rfl ⟨uW,st.mono aw aw,tg1,uO,rfl,rfl,jN.refl w _,qg w (kU (ej su.done hk uM) (ej su.done hk uM) rfl),.inr ⟨v,g,e2,⟨su.world,su.zj,su.done,su.version,su.eF,su.zg,su.u9,so,he2,so,⟨aL,aM⟩,su.listen,su.i,su.k⟩,
   ⟨uL,uK,fun _=>l0,uK,uK,uK,uK,uK,uK,uK⟩⟩⟩
 ·rw [dL q]
  exact zM rfl ⟨uW,st.mono aw aw,tg1,uO,rfl,rfl,jN.refl w _,qg w (kU (ej su.done hk uM) (ej su.done hk uM) rfl),.inr ⟨v,g,e,uQ,
   ⟨uL,uK,fun _=>l0,uK,uK,uK,uK,uK,uK,uK⟩⟩⟩
def Ud (st:St N K w) (tg:Tg N w) (su:qH w m v g e) (tm:eJ m) (lo:fe w m v g e) (hk:m.op.kind=1) (p:m.pc=9):∃ r,qf w m v g e=some r∧Nc N K w m fe fY r:=by
 obtain ⟨f1,f2,f3,f4,f5,f6,f7⟩:=vj st su;have tg1:=tg.mono (pz N);have l0:=lo.uz (.inl aw);unfold qf;rw [dL aw,dL aw,dL aw,dL aw,dL aw,dL aw,dL aw,dO p];by_cases q:0<=zC e.head∧zC e.head < e.next.length
 ·rw [dO q]
  exact zM rfl ⟨uW,st.mono aw aw,tg1,⟨tm.listen,f6.1,tm.link,tm.host,tm.path,tm.d0,tm.d1,tm.cfg,tm.iO⟩,rfl,rfl,jN.refl w _,qg w (kU (ej su.done hk uM) (ej su.done hk uM) rfl),.inr ⟨v,g,e,⟨su.world,su.zj,su.done,su.version,su.eF,su.zg,su.u9,su.end_,su.eE,su.other,q,su.listen,su.i,su.k⟩,
   ⟨uL,uK,fun _=>l0,uK,uK,uK,fun _=>⟨rfl,gd _⟩,uK,uK,uK⟩⟩⟩
 ·rw [dL q];exact zM rfl ⟨uW,st.mono aw aw,tg1,⟨tm.listen,f6.1,tm.link,tm.host,tm.path,tm.d0,tm.d1,tm.cfg,(fun h=>absurd ((show m.op.kind=6 from h).symm.trans hk) ar)⟩,rfl,rfl,jN.refl w _,qg w (kU (ej su.done hk uM) (ej su.done hk uM) rfl),.inr ⟨v,g,e,uQ,⟨uL,uK,uK,uK,uK,uK,uK,uK,fun _=>⟨by show (1:Int)<=4;decide,by show (4:Int)<=5;decide,fun h=>absurd (show (4:Int)=1 from h) ar⟩,uK⟩⟩⟩
def T0 (f1:Slp.u5 e=true) {s:Int} (h0:0<=s) (h1:s < e.next.length):∃ x,e.next[s.toNat]?= some x:=⟨_,dK aw⟩
def Tp (st:St N K w) (tg:Tg N w) (su:qH w m v g e) (tm:eJ m) (lo:fe w m v g e) (hk:m.op.kind=1) (p:m.pc=10):∃ r,qf w m v g e=some r∧Nc N K w m fe fY r:=by
 obtain ⟨f1,f2,f3,f4,f5,f6,f7⟩:=vj st su;have tg1:=tg.mono (pz N);have l0:=lo.uz (.inl aw);obtain ⟨z1,z2⟩:=lo.slot (.inl p);have ss:=su.slot;obtain ⟨x,hx⟩:=T0 f1 ss.1 ss.2;have hb:=(AF tg su.at_).2 x (dM hx);unfold qf;rw [dL aw,dL aw,dL aw,dL aw,dL aw,dL aw,dL aw,dL aw,dO p,hx,dV]
 exact zM rfl ⟨uW,st.mono aw aw,tg1,⟨tm.listen,tm.word,by show -1<=x∧x<=2147483646;omega,tm.host,tm.path,tm.d0,tm.d1,tm.cfg,tm.iO⟩,rfl,rfl,jN.refl w _,qg w (kU (ej su.done hk uM) (ej su.done hk uM) rfl),.inr ⟨v,g,e,uQ,
  ⟨uL,uK,fun _=>l0,uK,uK,uK,fun _=>⟨z1,z2⟩,fun _ _=>hx,uK,uK⟩⟩⟩
def Pr (f1:Slp.u5 e=true) (f2:e.next.length<=4):Slp.zC e<=3:=by
 by_cases h:Slp.zC e < 0
 ·omega
 ·have:=(Slp.Kw f1 h).2.1;omega
def JN {x i:Int} {N:Nat} (h:x / 4294967296<=N) (hx:u64 x) (hN:N<=100000000) (h1: -1<=i) (h2:i<=2147483646):Slp.qT x i / 4294967296=x / 4294967296+1:=by
 have:=Slp.Qa (x:=x) h1 h2;unfold u64 at hx;omega
def Tq (st:St N K w) (tg:Tg N w) (su:qH w m v g e) (tm:eJ m) (lo:fe w m v g e) (hk:m.op.kind=1) (hN:N<=100000000) (p:m.pc=11):∃ r,qf w m v g e=some r∧Nc N K w m fe fY r:=by
 obtain ⟨f1,f2,f3,f4,f5,f6,f7⟩:=vj st su;have tg1:=tg.mono (pz N);have te:=AF tg su.at_;have l0:=lo.uz (.inl aw);obtain ⟨z1,z2⟩:=lo.slot (.inr p);have ss:=su.slot;unfold qf;rw [dL aw,dL aw,dL aw,dL aw,dL aw,dL aw,dL aw,dL aw,dL aw,dO p];by_cases q:e.head=m.word
 ·have z3:=lo.link p q;have hh:Slp.zC e=m.slot:=by rw [z1,<- q];rfl
  have hx2:Slp.eZ e.next m.slot=m.link:=by unfold Slp.eZ;rw [z3];rfl
  have ct:=(Slp.Eg (Slp.n7 f1).1 aw).2.1;rw [hh,hx2] at ct;have hd:Slp.zC (qq e (Slp.qT m.word m.link) e.zf)=m.link:=Slp.D6 tm.link.1 tm.link.2
  have is2:Slp.u5 (qq e (Slp.qT m.word m.link) e.zf)=true:=by
   unfold Slp.u5;rw [hd];simp only [dS,dZ];exact ⟨⟨⟨ct,f3⟩,f2⟩,f4⟩
  have nt:=JN (i:=m.link) te.1 f6.1 hN tm.link.1 tm.link.2;rw [q] at nt;obtain ⟨q1,q2⟩:=S1 f6 f1 hh ss.1 hx2;rw [q] at q1 q2;have st2:=(st.mono aw aw:St (N+1) (K+1) w).iz su.at_ (e':=qq e (Slp.qT m.word m.link) e.zf) (tk:=g.zt) is2 rfl ⟨Slp.E7 tm.link.1 tm.link.2,f6.2⟩ f7 aN;rw [dO q];have ta:iy (qq e (Slp.qT m.word m.link) e.zf)=iy e+1:=by unfold iy;rw [q];exact nt
  exact zM rfl ⟨aO,st2,Ap tg1 su.at_ (e':=qq e (Slp.qT m.word m.link) e.zf) ⟨by have:=te.1;omega,te.2⟩,uO,rfl,rfl,ky su.at_ (e':=qq e (Slp.qT m.word m.link) e.zf) ⟨rfl,aw,fun h=>by omega,fun _ _ _=>rfl⟩,
   mG (p:=1) (p':=2) (ej su.done hk uM) (ej su.done hk uM) (Um su.at_ (e':=qq e (Slp.qT m.word m.link) e.zf) rfl ss.1 ss.2 q1 q2 rfl m.listen),.inr ⟨_,_,_,kZ (e':=qq e (Slp.qT m.word m.link) e.zf) (m':={ m with pc:=12 }) su rfl st2.jl rfl su.done rfl rfl rfl rfl rfl rfl rfl rfl,
   ⟨uL,uK,fun _=>l0,uK,uK,uK,uK,uK,uK,uK⟩⟩⟩
 ·rw [dL q]
  exact zM rfl ⟨aP,st.mono aw aw,tg1,uO,rfl,rfl,jN.refl w _,qg w (kU (ej su.done hk uM) (ej su.done hk uM) rfl),.inr ⟨v,g,e,uQ,
   ⟨uL,uK,fun _=>l0,uK,uK,uK,uK,uK,uK,uK⟩⟩⟩
def Tr (st:St N K w) (tg:Tg N w) (su:qH w m v g e) (tm:eJ m) (lo:fe w m v g e) (hk:m.op.kind=1) (hK:K<=1099511627776) (p:m.pc=12):∃ r,qf w m v g e=some r∧Nc N K w m fe fY r:=by
 obtain ⟨f1,f2,f3,f4,f5,f6,f7⟩:=vj st su;have tg1:=tg.mono (pz N);have l0:=lo.uz (.inl aw);have hw:IntKind.i64.wrap (e.zf+1)=e.zf+1:=qZ aw aw;have st2:=(st.mono aw aw:St (N+1) (K+1) w).iz su.at_ (e':=qq e e.head (e.zf+1)) (tk:=g.zt) (Ky f1 _ aw) rfl ⟨f6.1,f6.2.1,by show i64 (e.zf+1);unfold i64;omega⟩ f7 (by show e.zf+1<=_;omega);unfold qf;rw [dL aw,dL aw,dL aw,dL aw,dL aw,dL aw,dL aw,dL aw,dL aw,dL aw,dO p,hw]
 exact zM rfl ⟨tM,st2,Ap tg1 su.at_ (e':=qq e e.head (e.zf+1)) (show nV (N+1) e from AF tg1 su.at_),uP,rfl,rfl,ky su.at_ (e':=qq e e.head (e.zf+1)) ⟨rfl,gd _,fun _=>rfl,fun _ _ _=>rfl⟩,
  mG (p:=2) (p':=3) (ej su.done hk uM) (ej su.done hk uM) (TX su.at_ (e':=qq e e.head (e.zf+1)) rfl rfl f4 rfl m.slot m.listen),.inr ⟨_,_,_,kZ (e':=qq e e.head (e.zf+1)) (m':={ m with answer:=Ao m,pc:=20 }) su rfl st2.jl rfl su.done rfl rfl rfl rfl rfl rfl rfl rfl,
  ⟨uL,uK,uK,uK,uK,uK,uK,uK,fun _=>⟨by show (1:Int)<=1;decide,by show (1:Int)<=5;decide,fun _=>⟨rfl,l0⟩⟩,uK⟩⟩⟩
def Ts (st:St N K w) (tg:Tg N w) (su:qH w m v g e) (tm:eJ m) (lo:fe w m v g e) (hk:m.op.kind=1) (p:m.pc=20):∃ r,qf w m v g e=some r∧Nc N K w m fe fY r:=by
 have kr:=PD m.answer.kind;obtain ⟨r2,hl,hc⟩:=Im st su (pc:=21) kr.1 kr.2;have st2:=(st.mono aw aw:St (N+1) (K+1) w).count m.zj.toNat hl;have an:=lo.iO aw
 have ow:jT m=jT { m with pc:=21 }:=by
  by_cases k1:m.answer.kind=1
  ·exact AA (p:=3) (ej su.done hk uM) (ej su.done hk uM) rfl rfl rfl rfl rfl
  ·by_cases k2:0<=m.listen
   ·exact kU (ej su.done hk uM) (ej su.done hk uM) rfl
   ·exact vQ (ej su.done hk uM) (ej su.done hk uM)
 unfold qf;rw [dL aw,dL aw,dL aw,dL aw,dL aw,dL aw,dL aw,dL aw,dL aw,dL aw,dL aw,dO p,hc]
 exact zM rfl ⟨tM,st2,tg.mono (pz N),uO,rfl,rfl,xL (gd _) rfl aj rfl rfl rfl,Ah rfl rfl rfl rfl rfl ow,.inr ⟨v,g,e,⟨qi.2 st2.jl,su.zj,su.done,su.version,su.eF,su.zg,su.u9,su.end_,su.eE,su.other,su.slot,su.listen,su.i,su.k⟩,
  ⟨uL,uK,uK,uK,uK,uK,uK,uK,fun _=>an,uK⟩⟩⟩
def Tt (st:St N K w) (tg:Tg N w) (su:qH w m v g e) (tm:eJ m) (lo:fe w m v g e) (hk:m.op.kind=1) (p:m.pc=21):∃ r,qf w m v g e=some r∧Nc N K w m fe fY r:=by
 obtain ⟨r2,hl,hc⟩:=Im st su (k:=0) (pc:=if m.answer.kind=1∨m.listen < 0 then 23 else 22) ar ar;have st2:=(st.mono aw aw:St (N+1) (K+1) w).count m.zj.toNat hl;have an:=lo.iO aw;unfold qf;rw [dL aw,dL aw,dL aw,dL aw,dL aw,dL aw,dL aw,dL aw,dL aw,dL aw,dL aw,dL aw,dO p,hc];by_cases q:m.answer.kind=1∨m.listen < 0
 ·rw [dO q]
  have ow:jT m=jT { m with pc:=23 }:=by
   by_cases k1:m.answer.kind=1
   ·exact AA (p:=3) (ej su.done hk uM) (ej su.done hk uM) rfl rfl rfl rfl rfl
   ·exact vQ (ej su.done hk uM) (ej su.done hk uM)
  exact zM rfl ⟨tM,st2,tg.mono (pz N),uO,rfl,rfl,xL (gd _) rfl aj rfl rfl rfl,Ah rfl rfl rfl rfl rfl ow,.inr ⟨v,g,e,⟨qi.2 st2.jl,su.zj,su.done,su.version,su.eF,su.zg,su.u9,su.end_,su.eE,su.other,su.slot,su.listen,su.i,su.k⟩,
   ⟨uL,uK,uK,uK,uK,uK,uK,uK,fun _=>an,uK⟩⟩⟩
 ·rw [dL q]
  exact zM rfl ⟨tM,st2,tg.mono (pz N),uO,rfl,rfl,xL (gd _) rfl aj rfl rfl rfl,Ah rfl rfl rfl rfl rfl (kU (ej su.done hk uM) (ej su.done hk uM) rfl),.inr ⟨v,g,e,⟨qi.2 st2.jl,su.zj,su.done,su.version,su.eF,su.zg,su.u9,su.end_,su.eE,su.other,su.slot,su.listen,su.i,su.k⟩,
   ⟨uL,uK,fun _=>by show 0<=m.listen;omega,uK,uK,uK,uK,uK,fun _=>an,fun _ h=>q (.inl h)⟩⟩⟩
def Bt (ow:∀ x,jT m x<=Has w x) {p:Nat} (h:ph m=p) (x:Key) (hx:1<=qc p m.version m.zg m.end_ m.slot m.listen x):1<=Has w x:=by
 have:=ow x;rw [jm h] at this;omega
def J2 (ow:∀ x,jT m x<=Has w x) {p:Nat} (h:ph m=p) (hp:1<=p∧p<=4):0<=m.listen∧∃ x,w.zd[m.listen.toNat]?= some x∧1<=x.zf:=by
 have:=Bt ow h (.uz m.listen) (by simp [qc,hp]);simp only [Has] at this;split at this
 ·rename_i q;split at this
  ·rename_i x hx;exact ⟨q,x,hx,aw⟩
  ·omega
 ·omega
def Tu (st:St N K w) (tg:Tg N w) (su:qH w m v g e) (tm:eJ m) (lo:fe w m v g e) (hk:m.op.kind=1) (hK:K<=1099511627776) (ow:∀ x,jT m x<=Has w x) (p:m.pc=22):∃ r,qf w m v g e=some r∧Nc N K w m fe fY r:=by
 have l0:=lo.uz (.inr p);have k1:=lo.kind p;have p1:ph m=1:=(ej su.done hk uM);obtain ⟨_,x,hx,x1⟩:=J2 ow p1 ar;have ca:=st.fi.uz x (dM hx);have hw:IntKind.i64.wrap (x.zf - 1)=x.zf - 1:=qZ aw aw;have st2:=Fu st su hx (x.zf - 1) aw aw hK;have an:=lo.iO aw;unfold qf lD;rw [dL aw,dL aw,dL aw,dL aw,dL aw,dL aw,dL aw,dL aw,dL aw,dL aw,dL aw,dL aw,dL aw,dO p,dL aw,hx,dV];unfold ot;rw [hw]
 exact zM rfl ⟨tM,st2,tg.mono (pz N),uO,rfl,rfl,Be hx rfl id,mG (p:=1) (p':=0) p1 (ej su.done hk uM) (J9 l0 hx x1 rfl _ _ _ _ _ _ _ _ _),.inr ⟨v,g,e,⟨qi.2 st2.jl,su.zj,su.done,su.version,su.eF,su.zg,su.u9,su.end_,su.eE,su.other,su.slot,aq su.listen,su.i,su.k⟩,
  ⟨uL,uK,uK,uK,uK,uK,uK,uK,fun _=>an,uK⟩⟩⟩
def Tv (st:St N K w) (tg:Tg N w) (su:qH w m v g e) (tm:eJ m) (lo:fe w m v g e) (hk:m.op.kind=1) (p:m.pc=23):∃ r,qf w m v g e=some r∧Nc N K w m fe fY r:=by
 have ep:=(qa.1 st.jl.ground).zn;have st2:=(st.mono aw aw:St (N+1) (K+1) w).iT m.zj.toNat (p:=0) aw aw;have an:=lo.iO aw
 have ow:jT m=jT { m with done:=true }:=by
  by_cases k1:m.answer.kind=1
  ·exact AA (p:=3) (ej su.done hk uM) (Jm rfl hk k1) rfl rfl rfl rfl rfl
  ·exact vQ (ej su.done hk uM) (yv rfl (fun h=>k1 h.2))
 unfold qf;rw [dL aw,dL aw,dL aw,dL aw,dL aw,dL aw,dL aw,dL aw,dL aw,dL aw,dL aw,dL aw,dL aw,dL aw,dO p];exact zM rfl ⟨tI,st2,tg.mono (pz N),uP,rfl,rfl,xL (gd _) aj rfl rfl rfl rfl,Ah rfl rfl rfl rfl rfl ow,.inl ⟨rfl,an⟩⟩
def Pf (st:St N K w) (tg:Tg N w) (su:qH w m v g e) (tm:eJ m) (lo:fe w m v g e) (hk:m.op.kind=1) (hN:N<=100000000) (hK:K<=1099511627776) (ow:∀ x,jT m x<=Has w x):∃ r,qf w m v g e=some r∧Nc N K w m fe fY r:=by
 have pc:=lo.pc;by_cases h3:m.pc < 3
 ·exact Tw st tg su tm lo hk h3
 rcases (by omega:m.pc=3∨m.pc=4∨m.pc=5∨m.pc=6∨m.pc=7∨m.pc=8∨m.pc=9∨m.pc=10∨m.pc=11∨m.pc=12∨m.pc=20∨m.pc=21∨m.pc=22∨m.pc=23) with p | p | p | p | p | p | p | p | p | p | p | p | p | p
 ·exact T7 st tg su tm lo hk hN p
 ·exact T8 st tg su tm lo hk hK p
 ·exact T9 st tg su tm lo hk p
 ·exact Ua st tg su tm lo hk p
 ·exact Ub st tg su tm lo hk p
 ·exact Uc st tg su tm lo hk p
 ·exact Ud st tg su tm lo hk p
 ·exact Tp st tg su tm lo hk p
 ·exact Tq st tg su tm lo hk hN p
 ·exact Tr st tg su tm lo hk hK p
 ·exact Ts st tg su tm lo hk p
 ·exact Tt st tg su tm lo hk p
 ·exact Tu st tg su tm lo hk hK ow p
 ·exact Tv st tg su tm lo hk p
end
end Go.Wor
