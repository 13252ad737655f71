import Derived.Test.YtkbnjgogjccmfaaGreatS1
set_option linter.all false
set_option maxRecDepth 100000
set_option maxHeartbeats 4000000
namespace Go.Wor
open Go.Ab Go.Proofs Tryz Go.Hy Go.Gat Go.Nam Go.Hos Go.Con Go.Sna
inductive Key
 | slot (i j k s:Int)
 | act (i j k:Int)
 | ey (i:Int)
 | eR (i:Int)
 | lock
def ph (m:u3):Nat:=
 if m.done=true then (if m.op.kind=1∧m.answer.kind=1 then 3 else 0)
 else if m.op.kind=1 then (if 5<=m.pc∧m.pc<=11 then 1 else if m.pc=12 then 2 else if 20<=m.pc then (if m.answer.kind=1 then 3 else if m.pc<=22∧0<=m.listen then 1 else 0) else 0)
 else if m.op.kind=2 then (if m.pc<=2 then 3 else if m.pc=3 then 4 else if m.pc=4 then 1 else 0)
 else if m.op.kind=3 then (if 1<=m.pc then 5 else 0)
 else if m.op.kind=5 then (if 1<=m.pc then 6 else 0)
 else 0
def qf (p:Nat) (i j k s l:Int):Key->Nat
 | .slot i' j' k' s'=>if (p=2∨p=3)∧i=i'∧j=j'∧k=k'∧s=s' then 1 else 0
 | .act i' j' k'=>if (p=3∨p=4)∧i=i'∧j=j'∧k=k' then 1 else 0
 | .ey l'=>if (1<=p∧p<=4)∧l=l' then 1 else 0
 | .eR i'=>if p=5∧i=i' then 1 else 0
 | .lock=>if p=6 then 1 else 0
def j8 (m:u3):Key->Nat:=qf (ph m) m.version m.zi m.end_ m.slot m.listen
def iV (a:eC):Key->Nat:=qf 3 a.version a.zi a.end_ a.slot a.listen
def jw {m:u3} {p:Nat} (h:ph m=p):j8 m=qf p m.version m.zi m.end_ m.slot m.listen:=by unfold j8;rw [h]
def kC (i j k s l:Int) (x:Key):qf 0 i j k s l x=0:=by cases x <;> simp [qf]
def WI (i j k s l i' j' k' s':Int):qf 1 i j k s l=qf 1 i' j' k' s' l:=by funext x;cases x <;> simp [qf]
def WJ (i j k s l j' k' s' l':Int):qf 5 i j k s l=qf 5 i j' k' s' l':=by funext x;cases x <;> simp [qf]
def WL (i j k s l i' j' k' s' l':Int):qf 6 i j k s l=qf 6 i' j' k' s' l':=by funext x;cases x <;> simp [qf]
def eQ {m:u3} {n:Nat} (hd:m.done=false) (hk:m.op.kind=1) (h:(if 5<=m.pc∧m.pc<=11 then 1 else if m.pc=12 then 2 else if 20<=m.pc then (if m.answer.kind=1 then 3 else if m.pc<=22∧0<=m.listen then 1 else 0) else 0)=n):ph m=n:=by
 unfold ph;rw [dR aI,dU hk];exact h
def im {m:u3} {n:Nat} (hd:m.done=false) (hk:m.op.kind=2) (h:(if m.pc<=2 then 3 else if m.pc=3 then 4 else if m.pc=4 then 1 else 0)=n):ph m=n:=by
 unfold ph;rw [dR aI,dR aw,dU hk];exact h
def n7 {m:u3} {n:Nat} (hd:m.done=false) (hk:m.op.kind=3) (h:(if 1<=m.pc then 5 else 0)=n):ph m=n:=by
 unfold ph;rw [dR aI,dR aw,dR aw,dU hk];exact h
def ib {m:u3} {n:Nat} (hd:m.done=false) (hk:m.op.kind=5) (h:(if 1<=m.pc then 6 else 0)=n):ph m=n:=by
 unfold ph;rw [dR aI,dR aw,dR aw,dR aw,dU hk];exact h
def Cd {m:u3} (hd:m.done=false) (h1:m.op.kind≠1) (h2:m.op.kind≠2) (h3:m.op.kind≠3) (h5:m.op.kind≠5):ph m=0:=by
 unfold ph;rw [dR aI,dR h1,dR h2,dR h3,dR h5]
def yL {m:u3} (hd:m.done=true) (h:¬(m.op.kind=1∧m.answer.kind=1)):ph m=0:=by
 unfold ph;rw [dU hd,dR h]
def Km {m:u3} (hd:m.done=true) (hk:m.op.kind=1) (h:m.answer.kind=1):ph m=3:=by
 unfold ph;rw [dU hd,dU ⟨hk,h⟩]
def ig (w:Wor) (i j k:Int):Option En:=if 0<=i∧0<=j∧0<=k then wj w i j k else none
def fO (e:En) (s:Int):Nat:=if 0<=s∧s < e.next.length∧s ∉ (Slp.qB e).1 then 1 else 0
def Has (w:Wor):Key->Nat
 | .slot i j k s=>match ig w i j k with
  | some e=>fO e s
  | none=>0
 | .act i j k=>match ig w i j k with
  | some e=>e.zf.toNat
  | none=>0
 | .ey i=>if 0<=i then (match w.zd[i.toNat]? with
  | some l=>l.zf.toNat
  | none=>0) else 0
 | .eR i=>if 0<=i∧i < w.ze.length∧i≠w.current∧∀ r ∈ w.zr,r.version≠i then 1 else 0
 | .lock=>w.lock.toNat
def Mv (w w':Wor) (a b:Key->Nat):Prop:=∀ x,Has w' x+a x=Has w x+b x
def LN {w:Wor} {m:u3} {v:u9} {g:Gr} {e:En} (hat:fk w m v g e):ig w m.version m.zi m.end_=some e:=by
 unfold ig;rw [dU ⟨hat.v0,hat.g0,hat.e0⟩];exact FT hat
def KI {w:Wor} {m:u3} {v:u9} {g:Gr} {e:En} (hat:fk w m v g e) (e':En) (tk i j k:Int):ig (lb w m v g e' tk) i j k=if i=m.version∧j=m.zi∧k=m.end_ then some e' else ig w i j k:=by
 have p1:=hat.v0;have p2:=hat.g0;have p3:=hat.e0;unfold ig;rw [Fe hat];by_cases h:0<=i∧0<=j∧0<=k
 ·rw [dU h,dU h];by_cases q:i=m.version∧j=m.zi∧k=m.end_
  ·rw [dU q,dU (by rw [q.1,q.2.1,q.2.2];exact ⟨rfl,rfl,rfl⟩)]
  ·rw [dR q,dR (fun z=>q aw)]
 ·rw [dR h,dR h,dR (fun z=>h aw)]
def Jx {w w':Wor} (h:w'.ze=w.ze) (i j k:Int):ig w' i j k=ig w i j k:=by unfold ig wj;rw [h]
def qj (w:Wor) {a b:Key->Nat} (h:a=b):Mv w w a b:=fun x=>by rw [h]
def AP {w w':Wor} {a b:Key->Nat} (h1:w'.ze=w.ze) (h2:w'.zd=w.zd) (h3:w'.zr=w.zr) (h4:w'.current=w.current) (h5:w'.lock=w.lock) (h:a=b):Mv w w' a b:=fun x=>by
 rw [h];cases x with
 | slot i j k s=>simp only [Has,Jx h1]
 | act i j k=>simp only [Has,Jx h1]
 | ey i=>simp only [Has,h2]
 | eR i=>simp only [Has,h1,h3,h4]
 | lock=>simp only [Has,h5]
section
variable {w:Wor} {m:u3} {v:u9} {g:Gr} {e e':En} {tk:Int}
def TD (hat:fk w m v g e) (e':En) (tk:Int) (x:Key):Has (lb w m v g e' tk) x=match x with
  | .slot i j k s=>if i=m.version∧j=m.zi∧k=m.end_ then fO e' s else Has w x
  | .act i j k=>if i=m.version∧j=m.zi∧k=m.end_ then e'.zf.toNat else Has w x
  | x=>Has w x:=by
 cases x with
 | slot i j k s=>
  simp only [Has,KI hat];by_cases q:i=m.version∧j=m.zi∧k=m.end_
  ·rw [dU q,dU q]
  ·rw [dR q,dR q]
 | act i j k=>
  simp only [Has,KI hat];by_cases q:i=m.version∧j=m.zi∧k=m.end_
  ·rw [dU q,dU q]
  ·rw [dR q,dR q]
 | ey i=>rfl
 | eR i=>simp only [Has,lb,rF]
 | lock=>rfl
def FY (hat:fk w m v g e) (s:Int):Has w (.slot m.version m.zi m.end_ s)=fO e s:=by simp only [Has,LN hat]
def LQ (hat:fk w m v g e):Has w (.act m.version m.zi m.end_)=e.zf.toNat:=by simp only [Has,LN hat]
def Co (hat:fk w m v g e) {a b:Key->Nat} (hs:∀ s,fO e' s+a (.slot m.version m.zi m.end_ s)=fO e s+b (.slot m.version m.zi m.end_ s)) (ha:e'.zf.toNat+a (.act m.version m.zi m.end_)=e.zf.toNat+b (.act m.version m.zi m.end_))
  (h:∀ x,(∀ s,x≠.slot m.version m.zi m.end_ s)->x≠.act m.version m.zi m.end_->a x=b x):Mv w (lb w m v g e' tk) a b:=fun x=>by
 rw [TD hat];cases x with
 | slot i j k s=>
  dsimp only;by_cases q:i=m.version∧j=m.zi∧k=m.end_
  ·rw [dU q];obtain ⟨rfl,rfl,rfl⟩:=q;rw [FY hat];exact hs s
  ·rw [dR q,h (.slot i j k s) (fun s' z=>q (by cases z;exact ⟨rfl,rfl,rfl⟩)) (fun z=>nomatch z)]
 | act i j k=>
  dsimp only;by_cases q:i=m.version∧j=m.zi∧k=m.end_
  ·rw [dU q];obtain ⟨rfl,rfl,rfl⟩:=q;rw [LQ hat];exact ha
  ·rw [dR q,h (.act i j k) (fun s' z=>nomatch z) (fun z=>q (by cases z;exact ⟨rfl,rfl,rfl⟩))]
 | ey i=>dsimp only;rw [h (.ey i) (fun s' z=>nomatch z) (fun z=>nomatch z)]
 | eR i=>dsimp only;rw [h (.eR i) (fun s' z=>nomatch z) (fun z=>nomatch z)]
 | lock=>dsimp only;rw [h (.lock) (fun s' z=>nomatch z) (fun z=>nomatch z)]
def LY (hat:fk w m v g e) (hl:e'.next.length=e.next.length) (hf:(Slp.qB e').1=(Slp.qB e).1) (ha:e'.zf=e.zf) {a b:Key->Nat} (h:a=b):Mv w (lb w m v g e' tk) a b:=
 Co hat (fun s=>by rw [h];unfold fO;rw [hl,hf]) (by rw [h,ha]) fun x _ _=>by rw [h]
def VL (hat:fk w m v g e) (hl:e'.next.length=e.next.length) {s:Int} (h0:0<=s) (h1:s < e.next.length) (hf:(Slp.qB e).1=s::(Slp.qB e').1) (hn:s ∉ (Slp.qB e').1) (ha:e'.zf=e.zf) (l:Int):Mv w (lb w m v g e' tk) (qf 1 m.version m.zi m.end_ s l) (qf 2 m.version m.zi m.end_ s l):=by
 refine Co hat (fun t=>?_) (by simp [qf,ha]) fun x q1 q2=>?_
 ·unfold fO;rw [hl,hf];simp only [qf,rB,sY];by_cases q:s=t
  ·subst q;simp [h0,h1,hn]
  ·have q':¬t=s:=fun z=>q z.symm
   simp [q,q']
 ·cases x with
  | slot i j k t=>
   simp only [qf];rw [dR aj,dR (fun z=>q1 t (by rw [z.2.1,z.2.2.1,z.2.2.2.1]))]
  | act i j k=>simp [qf]
  | ey i=>simp [qf]
  | eR i=>simp [qf]
  | lock=>simp [qf]
def U0 (hat:fk w m v g e) (hl:e'.next.length=e.next.length) {s:Int} (h0:0<=s) (h1:s < e.next.length) (hf:(Slp.qB e').1=s::(Slp.qB e).1) (hn:s ∉ (Slp.qB e).1) (ha:e'.zf=e.zf) (l:Int):Mv w (lb w m v g e' tk) (qf 3 m.version m.zi m.end_ s l) (qf 4 m.version m.zi m.end_ s l):=by
 refine Co hat (fun t=>?_) (by simp [qf,ha]) fun x q1 q2=>?_
 ·unfold fO;rw [hl,hf];simp only [qf,rB,sY];by_cases q:s=t
  ·subst q;simp [h0,h1,hn]
  ·have q':¬t=s:=fun z=>q z.symm
   simp [q,q']
 ·cases x with
  | slot i j k t=>
   simp only [qf];rw [dR (fun z=>q1 t (by rw [z.2.1,z.2.2.1,z.2.2.2.1])),dR aj]
  | act i j k=>simp [qf]
  | ey i=>simp [qf]
  | eR i=>simp [qf]
  | lock=>simp [qf]
def UZ (hat:fk w m v g e) (hl:e'.next.length=e.next.length) (hf:(Slp.qB e').1=(Slp.qB e).1) (h0:0<=e.zf) (ha:e'.zf=e.zf+1) (s l:Int):Mv w (lb w m v g e' tk) (qf 2 m.version m.zi m.end_ s l) (qf 3 m.version m.zi m.end_ s l):=by
 refine Co hat (fun t=>by unfold fO;rw [hl,hf];simp [qf]) (by simp [qf,ha];omega) fun x q1 q2=>?_
 cases x with
 | slot i j k t=>simp [qf]
 | act i j k=>
  simp only [qf];rw [dR aj,dR (fun z=>q2 (by rw [z.2.1,z.2.2.1,z.2.2.2]))]
 | ey i=>simp [qf]
 | eR i=>simp [qf]
 | lock=>simp [qf]
def UX (hat:fk w m v g e) (hl:e'.next.length=e.next.length) (hf:(Slp.qB e').1=(Slp.qB e).1) (h0:1<=e.zf) (ha:e'.zf=e.zf - 1) (s l:Int):Mv w (lb w m v g e' tk) (qf 4 m.version m.zi m.end_ s l) (qf 1 m.version m.zi m.end_ s l):=by
 refine Co hat (fun t=>by unfold fO;rw [hl,hf];simp [qf]) (by simp [qf,ha];omega) fun x q1 q2=>?_
 cases x with
 | slot i j k t=>simp [qf]
 | act i j k=>
  simp only [qf];rw [dR (fun z=>q2 (by rw [z.2.1,z.2.2.1,z.2.2.2])),dR aj]
 | ey i=>simp [qf]
 | eR i=>simp [qf]
 | lock=>simp [qf]
end
def G6 {w:Wor} {i:Int} {x y:eL} (hi:0<=i) (hx:w.zd[i.toNat]?= some x) {a b:Key->Nat} (h0:y.zf.toNat+a (.ey i)=x.zf.toNat+b (.ey i)) (h:∀ k,k≠.ey i->a k=b k):Mv w { w with zd:=w.zd.set i.toNat y } a b:=fun k=>by
 cases k with
 | ey n=>
  by_cases q:n=i
  ·subst q;simp only [Has];rw [dU hi,dU hi,dW (dP.1 hx).1,hx];exact h0
  ·rw [h (.ey n) (fun z=>q (by cases z;rfl))];simp only [Has];by_cases n0:0<=n
   ·rw [dU n0,dU n0,gZ aw]
   ·rw [dR n0,dR n0]
 | slot a' b' c s=>rw [h (.slot a' b' c s) (fun z=>nomatch z)];rfl
 | act a' b' c=>rw [h (.act a' b' c) (fun z=>nomatch z)];rfl
 | eR n=>rw [h (.eR n) (fun z=>nomatch z)];rfl
 | lock=>rw [h .lock (fun z=>nomatch z)];rfl
def TP {w:Wor} {i:Int} {x y:eL} (hi:0<=i) (hx:w.zd[i.toNat]?= some x) (h0:0<=x.zf) (hy:y.zf=x.zf+1) (a b c d a' b' c' d' l:Int):Mv w { w with zd:=w.zd.set i.toNat y } (qf 0 a b c d l) (qf 1 a' b' c' d' i):=by
 refine G6 hi hx (by simp [qf];omega) fun k q=>?_
 cases k with
 | ey n=>simp only [qf];rw [dR aj,dR (fun z=>q (by rw [z.2]))]
 | slot a' b' c s=>simp [qf]
 | act a' b' c=>simp [qf]
 | eR n=>simp [qf]
 | lock=>simp [qf]
def Lw {w:Wor} {i:Int} {x y:eL} (hi:0<=i) (hx:w.zd[i.toNat]?= some x) (h0:1<=x.zf) (hy:y.zf=x.zf - 1) (a b c d a' b' c' d' l:Int):Mv w { w with zd:=w.zd.set i.toNat y } (qf 1 a b c d i) (qf 0 a' b' c' d' l):=by
 refine G6 hi hx (by simp [qf];omega) fun k q=>?_
 cases k with
 | ey n=>simp only [qf];rw [dR (fun z=>q (by rw [z.2])),dR aj]
 | slot a' b' c s=>simp [qf]
 | act a' b' c=>simp [qf]
 | eR n=>simp [qf]
 | lock=>simp [qf]
def JP {w:Wor} {i:Int} {x y:eL} (hi:0<=i) (hx:w.zd[i.toNat]?= some x) (hy:y.zf=x.zf) {a b:Key->Nat} (h:a=b):Mv w { w with zd:=w.zd.set i.toNat y } a b:=
 G6 hi hx (by rw [h,hy]) fun _ _=>by rw [h]
def ko {m m':u3} (h:ph m=0) (h':ph m'=0):j8 m=j8 m':=by
 funext x
 rw [jw h,jw h',kC,kC]
def wA {m m':u3} (h:ph m=1) (h':ph m'=1) (hl:m'.listen=m.listen):j8 m=j8 m':=by
 rw [jw h,jw h',hl];exact WI ..
def Bt {p:Nat} {m m':u3} (h:ph m=p) (h':ph m'=p) (h1:m'.version=m.version) (h2:m'.zi=m.zi) (h3:m'.end_=m.end_) (h4:m'.slot=m.slot) (h5:m'.listen=m.listen):j8 m=j8 m':=by
 rw [jw h,jw h',h1,h2,h3,h4,h5]
def Wf {m m':u3} (h:ph m=5) (h':ph m'=5) (hl:m'.version=m.version):j8 m=j8 m':=by
 rw [jw h,jw h',hl];exact WJ ..
def kq {m m':u3} (h:ph m=6) (h':ph m'=6):j8 m=j8 m':=by
 rw [jw h,jw h'];exact WL ..
def nh {w w':Wor} {m m':u3} {p p':Nat} (h:ph m=p) (h':ph m'=p') (x:Mv w w' (qf p m.version m.zi m.end_ m.slot m.listen) (qf p' m'.version m'.zi m'.end_ m'.slot m'.listen)):Mv w w' (j8 m) (j8 m'):=by
 rw [jw h,jw h'];exact x
def iR (e:En):Int:=e.head / 4294967296
def oK (N:Nat) (e:En):Prop:=iR e<=N∧∀ x ∈ e.next, -1<=x∧x<=3
def Tg (N:Nat) (w:Wor):Prop:=∀ v ∈ w.ze,∀ g ∈ v.zm,∀ e ∈ g.ends,oK N e
def Tg.mono {N N':Nat} {w:Wor} (h:Tg N w) (hN:N<=N'):Tg N' w:=fun v hv g hg e he=>⟨by have:=(h v hv g hg e he).1;omega,(h v hv g hg e he).2⟩
structure Av (e e':En) (o:Int->Nat):Prop where
 len:e'.next.length=e.next.length
 tag:iR e<=iR e'
 head:iR e'=iR e->e'.head=e.head
 next:∀ s,0<=s->o s=0->e'.next[s.toNat]?= e.next[s.toNat]?
def Av.refl (e:En) (o:Int->Nat):Av e e o:=⟨rfl,gy _,fun _=>rfl,fun _ _ _=>rfl⟩
structure Bv (g g':Gr) (o:Nat->Int->Nat):Prop where
 len:g'.ends.length=g.ends.length
 ends : ∀ (k : Nat) e e', g.ends[k]? = some e -> g'.ends[k]? = some e' -> Av e e' (o k)
def Bv.refl (g:Gr) (o:Nat->Int->Nat):Bv g g o:=⟨rfl,fun k e e' h h'=>by rw [h] at h';cases h';exact Av.refl e _⟩
structure ou (v v':u9) (o:Nat->Nat->Int->Nat):Prop where
 snap:v'.snap=v.snap
 len:v'.zm.length=v.zm.length
 nZ:∀ (j:Nat) g g',v.zm[j]?= some g->v'.zm[j]?= some g'->Bv g g' (o j)
def ou.refl (v:u9) (o:Nat->Nat->Int->Nat):ou v v o:=⟨rfl,rfl,fun j g g' h h'=>by rw [h] at h';cases h';exact Bv.refl g _⟩
structure jY (w w':Wor) (o:Key->Nat):Prop where
 zn:w.zn<=w'.zn
 pins:w'.pins.length=w.pins.length
 counts:w'.counts.length=w.counts.length
 iB:w.ze.length<=w'.ze.length
 eR:∀ (i:Nat) v v',w.ze[i]?= some v->w'.ze[i]?= some v'->ou v v' fun j k s=>o (.slot i j k s)
 ey:w'.zd.length=w.zd.length
 wU:∀ (i:Nat) l l',w.zd[i]?= some l->w'.zd[i]?= some l'->l'.name=l.name∧(l.drain=true->l'.drain=true)
 ia:w.zr.length<=w'.zr.length
 zr:∀ (i:Nat) r r',w.zr[i]?= some r->w'.zr[i]?= some r'->r'.version=r.version∧r'.at_=r.at_∧(o .lock=0->r'.gone=r.gone)
def jt {α:Type} {l:List α} {i:Nat} {x y:α} (h:l[i]?= some x) (h':l[i]?= some y):y=x:=by rw [h] at h';cases h';rfl
def yc {w w':Wor} {o:Key->Nat} (h0:w.zn<=w'.zn) (h1:w'.pins.length=w.pins.length) (h2:w'.counts.length=w.counts.length) (h3:w'.ze=w.ze) (h4:w'.zd=w.zd) (h5:w'.zr=w.zr):jY w w' o:=by
 refine ⟨h0,h1,h2,by rw [h3];exact gf _,fun i v v' h h'=>?_,by rw [h4],fun i l l' h h'=>?_,by rw [h5];exact gf _,fun i r r' h h'=>?_⟩
 ·rw [h3] at h';rw [jt h h'];exact ou.refl v _
 ·rw [h4] at h';rw [jt h h'];exact ⟨rfl,id⟩
 ·rw [h5] at h';rw [jt h h'];exact dK
def jY.refl (w:Wor) (o:Key->Nat):jY w w o:=yc (gy _) rfl rfl rfl rfl rfl
def kW {w:Wor} {m:u3} {v:u9} {g:Gr} {e e':En} {tk:Int} {o:Key->Nat} (hat:fk w m v g e) (h:Av e e' fun s=>o (.slot m.version m.zi m.end_ s)):jY w (lb w m v g e' tk) o:=by
 have p1:=hat.v0;have p2:=hat.g0;have p3:=hat.e0;refine ⟨gy _,rfl,rfl,by show _<=(w.ze.set _ _).length;rw [rF];exact gf _,fun i v1 v2 h1 h2=>?_,rfl,fun i l l' h1 h2=>?_,gf _,fun i r r' h1 h2=>?_⟩
 ·rcases xZ h2 with ⟨rfl,rfl,_⟩ | ⟨_,h2⟩
  ·rw [jt hat.at_ h1];refine ⟨rfl,aj,fun j g1 g2 h3 h4=>?_⟩;rcases xZ h4 with ⟨rfl,rfl,_⟩ | ⟨_,h4⟩
   ·rw [jt hat.eG h3];refine ⟨aj,fun k e1 e2 h5 h6=>?_⟩;rcases xZ h6 with ⟨rfl,rfl,_⟩ | ⟨_,h6⟩
    ·rw [jt hat.eS h5,pV p1,pV p2,pV p3];exact h
    ·rw [jt h5 h6];exact Av.refl e1 _
   ·rw [jt h3 h4];exact Bv.refl g1 _
  ·rw [jt h1 h2];exact ou.refl v1 _
 ·rw [jt h1 h2];exact ⟨rfl,id⟩
 ·rw [jt h1 h2];exact dK
def B5 {w:Wor} {i:Nat} {x y:eL} {o:Key->Nat} (hx:w.zd[i]?= some x) (hn:y.name=x.name) (hd:x.drain=true->y.drain=true):jY w { w with zd:=w.zd.set i y } o:=by
 refine ⟨gy _,rfl,rfl,gf _,fun i v1 v2 h1 h2=>?_,aj,fun j l l' h1 h2=>?_,gf _,fun i r r' h1 h2=>?_⟩
 ·rw [jt h1 h2];exact ou.refl v1 _
 ·rcases xZ h2 with ⟨rfl,rfl,_⟩ | ⟨_,h2⟩
  ·rw [jt hx h1];exact ⟨hn,hd⟩
  ·rw [jt h1 h2];exact ⟨rfl,id⟩
 ·rw [jt h1 h2];exact dK
def Lg {α:Type} {l l2:List α} {i:Nat} {x y:α} (h:l[i]?= some x) (h':(l++l2)[i]?= some y):y=x:=by
 rw [dX (dP.1 h).1] at h';exact jt h h'
def R0 {w:Wor} {v:u9} {n:Int} {o:Key->Nat}:jY w { w with current:=n,ze:=w.ze++[v] } o:=by
 refine ⟨gy _,rfl,rfl,aj,fun i v1 v2 h1 h2=>?_,rfl,fun i l l' h1 h2=>?_,gf _,fun i r r' h1 h2=>?_⟩
 ·rw [Lg h1 h2];exact ou.refl v1 _
 ·rw [jt h1 h2];exact ⟨rfl,id⟩
 ·rw [jt h1 h2];exact dK
def TL {w:Wor} {x:eJ} {o:Key->Nat}:jY w { w with zr:=w.zr++[x] } o:=by
 refine ⟨gy _,rfl,rfl,gf _,fun i v1 v2 h1 h2=>?_,rfl,fun i l l' h1 h2=>?_,aj,fun i r r' h1 h2=>?_⟩
 ·rw [jt h1 h2];exact ou.refl v1 _
 ·rw [jt h1 h2];exact ⟨rfl,id⟩
 ·rw [Lg h1 h2];exact dK
def Q6 {w:Wor} {i k:Nat} {v:u9} {x:eJ} {o:Key->Nat} (ho:o .lock=1) (hv:w.ze[k]?= some v) (hx:w.zr[i]?= some x):jY w { w with ze:=w.ze.set k (oo v),zr:=w.zr.set i (wu x) } o:=by
 refine ⟨gy _,rfl,rfl,aj,fun j v1 v2 h1 h2=>?_,rfl,fun i l l' h1 h2=>?_,aj,fun j r r' h1 h2=>?_⟩
 ·rcases xZ h2 with ⟨rfl,rfl,_⟩ | ⟨_,h2⟩
  ·rw [jt hv h1];exact ⟨rfl,rfl,fun j g g' h3 h4=>by rw [jt h3 (show v.zm[j]?= some g' from h4)];exact Bv.refl g _⟩
  ·rw [jt h1 h2];exact ou.refl v1 _
 ·rw [jt h1 h2];exact ⟨rfl,id⟩
 ·rcases xZ h2 with ⟨rfl,rfl,_⟩ | ⟨_,h2⟩
  ·rw [jt hx h1];exact ⟨rfl,rfl,fun z=>by omega⟩
  ·rw [jt h1 h2];exact dK
structure fF (w:Wor) (m:u3) (v:u9) (g:Gr) (e:En):Prop where
 pc:(0<=m.pc∧m.pc<=12)∨(20<=m.pc∧m.pc<=23)
 ep:m.pc=1∨m.pc=2->0<=m.zn∧m.zn<=w.zn
 ey:(4<=m.pc∧m.pc<=12)∨m.pc=22->0<=m.listen
 early:4<=m.pc∧m.pc<=5->m.zi=0∧m.end_=0∧m.other=0
 oO:4<=m.pc∧m.pc<=8->m.slot=0
 draw:m.pc=6->∃ c,v.snap.zk[m.zi.toNat]?= some c∧(u4 c).length≠0
 slot:m.pc=10∨m.pc=11->m.slot=zC m.word∧m.word / 4294967296<=iR e
 link:m.pc=11->e.head=m.word->e.next[m.slot.toNat]?= some m.link
 iN:20<=m.pc->1<=m.answer.kind∧m.answer.kind<=5∧(m.answer.kind=1->m.answer=Bc m∧0<=m.listen)
 kind:m.pc=22->m.answer.kind≠1
structure EH (w:Wor) (m:u3) (v:u9) (g:Gr) (e:En):Prop where
 pc:(0<=m.pc∧m.pc<=4)∨m.pc=9
 ey:m.pc<=4->0<=m.listen
 tag:m.pc=1∨m.pc=2->m.word / 4294967296<=iR e∧zC m.word<=3
 next:m.pc=2->e.next[m.slot.toNat]?= some (zC m.word)
structure EI (w:Wor) (m:u3) (v:u9) (g:Gr) (e:En):Prop where
 pc:0<=m.pc∧m.pc<=2
 ep:m.pc=2->0<=m.zn∧m.zn<=w.zn
structure C4 (w:Wor) (m:u3) (v:u9) (g:Gr) (e:En):Prop where
 pc:(0<=m.pc∧m.pc<=6)∨(8<=m.pc∧m.pc<=10)
 lK:m.pc=2->m.i < w.pins.length
 ia:m.pc=5∨m.pc=6->∃ r,w.zr[m.i.toNat]?= some r∧r.version=m.version∧r.gone=false
 act:m.pc=5->m.k < (yu v).length
 ey:m.pc=9∨m.pc=10->∃ l,w.zd[m.i.toNat]?= some l∧l.drain=true
structure BJ (w:Wor) (m:u3) (v:u9) (g:Gr) (e:En):Prop where
 pc:m.pc=0
 k:m.k < 6
 i:m.i < w.counts.length
def Lc (w:Wor) (m:u3) (v:u9) (g:Gr) (e:En):Prop:=(m.op.kind=1∧fF w m v g e)∨(m.op.kind=2∧EH w m v g e)∨(m.op.kind=3∧EI w m v g e)∨(m.op.kind=4∧m.pc=0)∨(m.op.kind=5∧C4 w m v g e)∨(m.op.kind=6∧BJ w m v g e)
def iC (m:u3):Prop:=1<=m.answer.kind∧m.answer.kind<=5∧(m.answer.kind=1->m.answer=Bc m∧0<=m.listen)
abbrev MQ (m:u3):eC:=⟨6,m.version,m.zi,m.end_,m.slot,m.listen,0,⟨0,0,0,0,0,0⟩⟩
def HY (m:u3):Prop:=m.answer=MQ m∧m.pc=4∨m.answer=iK 7∧m.pc=9
def Af (m:u3):Prop:=7<=m.answer.kind∧m.answer.kind<=13
def EG (m:u3):Prop:=(m.op.kind=1∧iC m)∨(m.op.kind=2∧HY m)∨(3<=m.op.kind∧m.op.kind<=6∧Af m)
structure Nc (N K:Nat) (w:Wor) (m:u3) (L:Wor->u3->u9->Gr->En->Prop) (F:u3->Prop) (r:Wor × u3 × u6):Prop where
 ev:r.2.2.access≠0
 st:St (N+1) (K+1) r.1
 tg:Tg (N+1) r.1
 tm:fe r.2.1
 op:r.2.1.op=m.op
 th:r.2.1.zg=m.zg
 keep:jY w r.1 (j8 m)
 mv:Mv w r.1 (j8 m) (j8 r.2.1)
 go:(r.2.1.done=true∧F r.2.1)∨∃ v g e,qG r.1 r.2.1 v g e∧L r.1 r.2.1 v g e
def Be {N:Nat} {w:Wor} {m:u3} {v:u9} {g:Gr} {e e':En} {tk:Int} (h:Tg N w) (hat:fk w m v g e) (h':oK N e'):Tg N (lb w m v g e' tk):=fun v2 hv g2 hg e2 he=>by
 have mv:=dS hat.at_;have mg:=dS hat.eG;rcases mem_set hv with hv | rfl
 ·exact h v2 hv g2 hg e2 he
 ·rcases mem_set hg with hg | rfl
  ·exact h v mv g2 hg e2 he
  ·rcases mem_set he with he | rfl
   ·exact h v mv g mg e2 he
   ·exact h'
def Bq {N:Nat} {w:Wor} {m:u3} {v:u9} {g:Gr} {e:En} (h:Tg N w) (hat:fk w m v g e):oK N e:=h v (dS hat.at_) g (dS hat.eG) e (dS hat.eS)
section
variable {N K:Nat} {w:Wor} {m:u3} {v:u9} {g:Gr} {e:En}
def UO (st:St N K w) (tg:Tg N w) (su:qG w m v g e) (tm:fe m) (lo:fF w m v g e) (hk:m.op.kind=1) (h3:m.pc < 3):∃ r,qg w m v g e=some r∧Nc N K w m fF iC r:=by
 have gw:=st.ji;have ge:=zY.1 gw.ground;have hep:=ge.zn;have st1:St (N+1) (K+1) w:=st.mono aw aw;have tg1:=tg.mono (pH N);have lp:=lo.pc;unfold qg;rw [dU h3];unfold Ae;rcases (by omega:m.pc=0∨m.pc=1∨m.pc=2) with p | p | p
 ·rw [dU p];exact zM rfl ⟨uW,st1,tg1,uO,rfl,rfl,jY.refl w _,qj w (ko (eQ su.done hk uM) (eQ su.done hk uM)),.inr ⟨v,g,e,uQ,⟨uL,fun _=>⟨hep.1,gy _⟩,uK,uK,uK,uK,uK,uK,uK,uK⟩⟩⟩
 ·have he:=lo.ep (.inl p);have hw:IntKind.i64.wrap (m.zn+1)=m.zn+1:=jc aw aw;rw [dR aw,dU p,hw];have sp:=st1.lK m.zg.toNat (p:=m.zn+1) aw aw
  exact zM rfl ⟨tJ,sp,tg1,uO,rfl,rfl,yc (gy _) aj rfl rfl rfl rfl,AP rfl rfl rfl rfl rfl (ko (eQ su.done hk uM) (eQ su.done hk uM)),.inr ⟨v,g,e,⟨ql.2 sp.ji,aq su.zg,su.done,su.version,su.eX,su.zi,su.eG,su.end_,su.eS,su.other,su.slot,su.listen,su.i,su.k⟩,
   ⟨uL,fun _=>he,uK,uK,uK,uK,uK,uK,uK,uK⟩⟩⟩
 ·rw [dR aw,dR aw,dU p];by_cases q:w.zn=m.zn
  ·rw [dU q];exact zM rfl ⟨uW,st1,tg1,uO,rfl,rfl,jY.refl w _,qj w (ko (eQ su.done hk uM) (eQ su.done hk uM)),.inr ⟨v,g,e,uQ,⟨uL,uK,uK,uK,uK,uK,uK,uK,uK,uK⟩⟩⟩
  ·rw [dR q];exact zM rfl ⟨uW,st1,tg1,uO,rfl,rfl,jY.refl w _,qj w (ko (eQ su.done hk uM) (eQ su.done hk uM)),.inr ⟨v,g,e,uQ,⟨uL,fun _=>⟨hep.1,gy _⟩,uK,uK,uK,uK,uK,uK,uK,uK⟩⟩⟩
def WM (st:St N K w) (tg:Tg N w) (su:qG w m v g e) (tm:fe m) (lo:fF w m v g e) (hk:m.op.kind=1) (hN:N<=100000000) (p:m.pc=3):∃ r,qg w m v g e=some r∧Nc N K w m fF iC r:=by
 have gw:=st.ji;have st1:St (N+1) (K+1) w:=st.mono aw aw;have tg1:=tg.mono (pH N);have pr:=E9 w.zd m.op.listen;have hl:=st.ty.ey;have cu:=gw.current;obtain ⟨v',hv'⟩:∃ v',w.ze[w.current.toNat]?= some v':=⟨_,dQ aw⟩;have gv:=(gw.eR _ v' hv').1;have h0:0 < v'.zm.length:=aE
 obtain ⟨g',e',hg,he,l1,l2⟩:=v7 gv h0;unfold qg;rw [dR aw,dU p];by_cases q:zU w.zd m.op.listen < 0
 ·rw [dU q];refine zM rfl ⟨uW,st1,tg1,⟨aJ,tm.word,tm.link,tm.host,tm.path,tm.d0,tm.d1,tm.cfg,(fun h=>absurd ((show m.op.kind=6 from h).symm.trans hk) ar)⟩,rfl,rfl,jY.refl w _,qj w (ko (eQ su.done hk uM) (eQ su.done hk ?_)),.inr ⟨v',g',e',⟨su.world,su.zg,su.done,cu,hv',⟨gy _,aK⟩,hg,⟨gy _,aK⟩,he,⟨gy _,aK⟩,⟨gy _,aK⟩,pr,su.i,su.k⟩,⟨uL,uK,uK,uK,uK,uK,uK,uK,fun _=>⟨by show (1:Int)<=2;decide,by show (2:Int)<=5;decide,fun h=>absurd (show (2:Int)=1 from h) ar⟩,uK⟩⟩⟩;dsimp only;(repeat' split) <;> omega
 ·rw [dR q]
  exact zM rfl ⟨uW,st1,tg1,⟨aJ,tm.word,tm.link,tm.host,tm.path,tm.d0,tm.d1,tm.cfg,tm.iN⟩,rfl,rfl,jY.refl w _,qj w (ko (eQ su.done hk uM) (eQ su.done hk uM)),.inr ⟨v',g',e',⟨su.world,su.zg,su.done,cu,hv',⟨gy _,aK⟩,hg,⟨gy _,aK⟩,he,⟨gy _,aK⟩,⟨gy _,aK⟩,pr,su.i,su.k⟩,
   ⟨uL,uK,fun _=>by show 0<=zU w.zd m.op.listen;omega,fun _=>⟨rfl,rfl,rfl⟩,fun _=>rfl,uK,uK,uK,uK,uK⟩⟩⟩
def WN (st:St N K w) (tg:Tg N w) (su:qG w m v g e) (tm:fe m) (lo:fF w m v g e) (hk:m.op.kind=1) (hK:K<=1099511627776) (p:m.pc=4):∃ r,qg w m v g e=some r∧Nc N K w m fF iC r:=by
 have gw:=st.ji;have tg1:=tg.mono (pH N);have l0:=lo.ey (.inl aw);have sl:=su.listen;obtain ⟨x,hx⟩:∃ x,w.zd[m.listen.toNat]?= some x:=⟨_,dQ aw⟩;have li:=DS (gw.ey _ x hx).1;have ca:=st.fL.ey x (dS hx);have hw:IntKind.i64.wrap (x.zf+1)=x.zf+1:=jc aw aw;have st2:=Gh st su hx (x.zf+1) aw aw hK;unfold qg iI;rw [dR aw,dR aw,dU p,dR aw,hx,gh];unfold MB;rw [hw]
 exact zM rfl ⟨tN,st2,tg1,uO,rfl,rfl,B5 hx rfl id,nh (p:=0) (p':=1) (eQ su.done hk uM) (eQ su.done hk uM) (TP l0 hx li.2.1 rfl _ _ _ _ _ _ _ _ _),.inr ⟨v,g,e,⟨ql.2 st2.ji,su.zg,su.done,su.version,su.eX,su.zi,su.eG,su.end_,su.eS,su.other,su.slot,aq su.listen,su.i,su.k⟩,
  ⟨uL,uK,fun _=>l0,fun _=>lo.early aw,fun _=>lo.oO aw,uK,uK,uK,uK,uK⟩⟩⟩
def WO (st:St N K w) (tg:Tg N w) (su:qG w m v g e) (tm:fe m) (lo:fF w m v g e) (hk:m.op.kind=1) (p:m.pc=5):∃ r,qg w m v g e=some r∧Nc N K w m fF iC r:=by
 have gw:=st.ji;have st1:St (N+1) (K+1) w:=st.mono aw aw;have tg1:=tg.mono (pH N);have l0:=lo.ey (.inl aw);have sl:=su.listen;obtain ⟨x,hx⟩:∃ x,w.zd[m.listen.toNat]?= some x:=⟨_,dQ aw⟩;obtain ⟨z1,z2,z3⟩:=lo.early aw;have z4:=lo.oO aw;have gv:=(gw.eR _ v su.eX).1;unfold qg iI;rw [dR aw,dR aw,dR aw,dU p,dR aw,hx,gh];cases hd:x.drain
 ·simp only [rZ,if_false];obtain ⟨c0,c,hc⟩:=KR gv.snap m.op.listen m.op.host m.op.path;by_cases f:(xu m v).2=0
  ·have glt:(xu m v).1.toNat < v.zm.length:=by have:=(dP.1 hc).1;have:=gv.len;show (og v.snap m.op.listen m.op.host m.op.path).1.toNat < _;omega
   obtain ⟨g',e',hg,he,q1,q2⟩:=v7 gv glt;have c0':0<=(xu m v).1:=c0;have su':∀ pc an,qG w { m with zi:=(xu m v).1,pc:=pc,answer:=an } v g' e':=fun pc an=>⟨su.world,su.zg,su.done,su.version,su.eX,⟨c0',by show (xu m v).1 < _;omega⟩,hg,⟨by show 0<=m.end_;omega,by show m.end_ < _;omega⟩,by show g'.ends[m.end_.toNat]?= _;rw [z2];exact he,⟨by show 0<=m.other;omega,by show m.other < _;omega⟩,⟨aL,aM⟩,su.listen,su.i,su.k⟩
   by_cases d:(yP c m.op.d0 m.op.d1).2.2=0
   ·have hn:(u4 c).length≠0:=by
     intro hz;unfold yP at d;rw [dU hz] at d;cases d
    by_cases po:c.xL=1
    ·rw [JV f hc d po];exact zM rfl ⟨uW,st1,tg1,uO,rfl,rfl,jY.refl w _,qj w (wA (eQ su.done hk uM) (eQ su.done hk uM) rfl),.inr ⟨v,g',e',su' 6 m.answer,⟨uL,uK,fun _=>l0,uK,fun _=>z4,fun _=>⟨c,hc,hn⟩,uK,uK,uK,uK⟩⟩⟩
    ·rw [JW f hc d po];have gl:=(gv.nZ _ g' c hg hc).1;have dv:yP c m.op.d0 m.op.d1=(yk c m.op.d0,yk c m.op.d1,0):=by unfold yP;rw [dR hn]
     have r0:=GN (n:=m.op.d0) hn;have r1:=GN (n:=m.op.d1) hn;have d1:(yP c m.op.d0 m.op.d1).1=yk c m.op.d0:=by rw [dv]
     have d2:(yP c m.op.d0 m.op.d1).2.1=yk c m.op.d1:=by rw [dv]
     rw [d1,d2];have r0':0<=yk c m.op.d0∧yk c m.op.d0 < c.zL.length:=r0;have r1':0<=yk c m.op.d1∧yk c m.op.d1 < c.zL.length:=r1;obtain ⟨e2,he2⟩:∃ e2,g'.ends[(yk c m.op.d0).toNat]?= some e2:=⟨_,dQ aw⟩;have n2:=((gv.fV.2 g' (dS hg)).2.2 e2 (dS he2)).2
     exact zM rfl ⟨uW,st1,tg1,uO,rfl,rfl,jY.refl w _,qj w (wA (eQ su.done hk uM) (eQ su.done hk uM) rfl),.inr ⟨v,g',e2,⟨su.world,su.zg,su.done,su.version,su.eX,⟨c0',by show (xu m v).1 < _;omega⟩,hg,⟨r0'.1,by show yk c m.op.d0 < _;omega⟩,he2,⟨r1'.1,by show yk c m.op.d1 < _;omega⟩,⟨aL,aM⟩,su.listen,su.i,su.k⟩,
      ⟨uL,uK,fun _=>l0,uK,fun _=>z4,uK,uK,uK,uK,uK⟩⟩⟩
   ·rw [IX f hc d];exact zM rfl ⟨uW,st1,tg1,uP,rfl,rfl,jY.refl w _,qj w (wA (eQ su.done hk uM) (eQ su.done hk uM) rfl),.inr ⟨v,g',e',su' 20 (iK 3),⟨uL,uK,uK,uK,uK,uK,uK,uK,fun _=>⟨by show (1:Int)<=3;decide,by show (3:Int)<=5;decide,fun h=>absurd (show (3:Int)=1 from h) ar⟩,uK⟩⟩⟩
  ·rw [Kr f];exact zM rfl ⟨uW,st1,tg1,uP,rfl,rfl,jY.refl w _,qj w (wA (eQ su.done hk uM) (eQ su.done hk uM) rfl),.inr ⟨v,g,e,uQ,⟨uL,uK,uK,uK,uK,uK,uK,uK,fun _=>⟨by show (1:Int)<=2;decide,by show (2:Int)<=5;decide,fun h=>absurd (show (2:Int)=1 from h) ar⟩,uK⟩⟩⟩
 ·simp only [if_true];exact zM rfl ⟨uW,st1,tg1,uP,rfl,rfl,jY.refl w _,qj w (wA (eQ su.done hk uM) (eQ su.done hk uM) rfl),.inr ⟨v,g,e,uQ,⟨uL,uK,uK,uK,uK,uK,uK,uK,fun _=>⟨by show (1:Int)<=5;decide,by show (5:Int)<=5;decide,fun h=>absurd (show (5:Int)=1 from h) ar⟩,uK⟩⟩⟩
def WQ (st:St N K w) (tg:Tg N w) (su:qG w m v g e) (tm:fe m) (lo:fF w m v g e) (hk:m.op.kind=1) (p:m.pc=6):∃ r,qg w m v g e=some r∧Nc N K w m fF iC r:=by
 have gw:=st.ji;have tg1:=tg.mono (pH N);obtain ⟨f1,f2,f3,f4,f5,f6,f7⟩:=vB st su;have gv:=(gw.eR _ v su.eX).1;obtain ⟨c,hc,hn⟩:=lo.draw p;have l0:=lo.ey (.inl aw);have z:=lo.oO aw;have gl:=(gv.nZ _ g c su.eG hc).1;have tr:=GN (n:=g.zt) hn;have tv:(mo c g.zt).1=((u4 c)[(g.zt % (u4 c).length).toNat]?).getD 0:=by unfold mo;rw [dR hn]
 rw [<- tv] at tr;obtain ⟨e2,he2⟩:∃ e2,g.ends[(mo c g.zt).1.toNat]?= some e2:=⟨_,dQ aw⟩;have n2:=((gv.fV.2 g (dS su.eG)).2.2 e2 (dS he2)).2;have st2:=(st.mono aw aw:St (N+1) (K+1) w).iS su.at_ (e':=qw e e.head e.zf) (tk:=IntKind.u64.wrap (g.zt+1)) f1 rfl f6 (Uv _) aN;have eset:g.ends.set m.end_.toNat (qw e e.head e.zf)=g.ends:=yI _ _ su.eS;have s1:=(dP.1 su.eX).1;have s2:=(dP.1 su.eG).1;have so:=su.other;unfold qg;rw [dR aw,dR aw,dR aw,dR aw,dU p,hc,gh]
 exact zM rfl ⟨tN,st2,Be tg1 su.at_ (e':=qw e e.head e.zf) (Bq tg1 su.at_),uO,rfl,rfl,kW su.at_ (e':=qw e e.head e.zf) (Av.refl e _),LY su.at_ (e':=qw e e.head e.zf) rfl rfl rfl (wA (eQ su.done hk uM) (eQ su.done hk uM) rfl),.inr ⟨_,_,e2,⟨ql.2 st2.ji,su.zg,su.done,aq su.version,dW s1,aq su.zi,dW s2,⟨tr.1,by show _ < (((g.ends.set m.end_.toNat (qw e e.head e.zf)).length:Nat):Int);rw [eset];show (mo c g.zt).1 < _;omega⟩,by show (g.ends.set m.end_.toNat (qw e e.head e.zf))[(mo c g.zt).1.toNat]?= some e2;rw [eset];exact he2,aq so,⟨aL,aM⟩,su.listen,su.i,su.k⟩,
  ⟨uL,uK,fun _=>l0,uK,uK,uK,uK,uK,uK,uK⟩⟩⟩
def WR (st:St N K w) (tg:Tg N w) (su:qG w m v g e) (tm:fe m) (lo:fF w m v g e) (hk:m.op.kind=1) (p:m.pc=7):∃ r,qg w m v g e=some r∧Nc N K w m fF iC r:=by
 obtain ⟨f1,f2,f3,f4,f5,f6,f7⟩:=vB st su;have l0:=lo.ey (.inl aw);unfold qg;rw [dR aw,dR aw,dR aw,dR aw,dR aw,dU p]
 exact zM rfl ⟨uW,st.mono aw aw,tg.mono (pH N),uO,rfl,rfl,jY.refl w _,qj w (wA (eQ su.done hk uM) (eQ su.done hk uM) rfl),.inr ⟨v,g,e,⟨su.world,su.zg,su.done,su.version,su.eX,su.zi,su.eG,su.end_,su.eS,su.other,su.slot,su.listen,f4,su.k⟩,
  ⟨uL,uK,fun _=>l0,uK,fun _=>lo.oO aw,uK,uK,uK,uK,uK⟩⟩⟩
def WS (st:St N K w) (tg:Tg N w) (su:qG w m v g e) (tm:fe m) (lo:fF w m v g e) (hk:m.op.kind=1) (p:m.pc=8):∃ r,qg w m v g e=some r∧Nc N K w m fF iC r:=by
 have gv:=(st.ji.eR _ v su.eX).1;have tg1:=tg.mono (pH N);have l0:=lo.ey (.inl aw);have z:=lo.oO aw;have so:=su.other;obtain ⟨e2,he2⟩:∃ e2,g.ends[m.other.toNat]?= some e2:=⟨_,dQ aw⟩;have n2:=((gv.fV.2 g (dS su.eG)).2.2 e2 (dS he2)).2;unfold qg;rw [dR aw,dR aw,dR aw,dR aw,dR aw,dR aw,dU p,he2,gh];by_cases q:e2.zf < m.i
 ·rw [dU q]
  exact zM rfl ⟨uW,st.mono aw aw,tg1,uO,rfl,rfl,jY.refl w _,qj w (wA (eQ su.done hk uM) (eQ su.done hk uM) rfl),.inr ⟨v,g,e2,⟨su.world,su.zg,su.done,su.version,su.eX,su.zi,su.eG,so,he2,so,⟨aL,aM⟩,su.listen,su.i,su.k⟩,
   ⟨uL,uK,fun _=>l0,uK,uK,uK,uK,uK,uK,uK⟩⟩⟩
 ·rw [dR q]
  exact zM rfl ⟨uW,st.mono aw aw,tg1,uO,rfl,rfl,jY.refl w _,qj w (wA (eQ su.done hk uM) (eQ su.done hk uM) rfl),.inr ⟨v,g,e,uQ,
   ⟨uL,uK,fun _=>l0,uK,uK,uK,uK,uK,uK,uK⟩⟩⟩
def WT (st:St N K w) (tg:Tg N w) (su:qG w m v g e) (tm:fe m) (lo:fF w m v g e) (hk:m.op.kind=1) (p:m.pc=9):∃ r,qg w m v g e=some r∧Nc N K w m fF iC r:=by
 obtain ⟨f1,f2,f3,f4,f5,f6,f7⟩:=vB st su;have tg1:=tg.mono (pH N);have l0:=lo.ey (.inl aw);unfold qg;rw [dR aw,dR aw,dR aw,dR aw,dR aw,dR aw,dR aw,dU p];by_cases q:0<=zC e.head∧zC e.head < e.next.length
 ·rw [dU q]
  exact zM rfl ⟨uW,st.mono aw aw,tg1,⟨tm.listen,f6.1,tm.link,tm.host,tm.path,tm.d0,tm.d1,tm.cfg,tm.iN⟩,rfl,rfl,jY.refl w _,qj w (wA (eQ su.done hk uM) (eQ su.done hk uM) rfl),.inr ⟨v,g,e,⟨su.world,su.zg,su.done,su.version,su.eX,su.zi,su.eG,su.end_,su.eS,su.other,q,su.listen,su.i,su.k⟩,
   ⟨uL,uK,fun _=>l0,uK,uK,uK,fun _=>⟨rfl,gy _⟩,uK,uK,uK⟩⟩⟩
 ·rw [dR q];exact zM rfl ⟨uW,st.mono aw aw,tg1,⟨tm.listen,f6.1,tm.link,tm.host,tm.path,tm.d0,tm.d1,tm.cfg,(fun h=>absurd ((show m.op.kind=6 from h).symm.trans hk) ar)⟩,rfl,rfl,jY.refl w _,qj w (wA (eQ su.done hk uM) (eQ su.done hk uM) rfl),.inr ⟨v,g,e,uQ,⟨uL,uK,uK,uK,uK,uK,uK,uK,fun _=>⟨by show (1:Int)<=4;decide,by show (4:Int)<=5;decide,fun h=>absurd (show (4:Int)=1 from h) ar⟩,uK⟩⟩⟩
def U2 (f1:Slp.eF e=true) {s:Int} (h0:0<=s) (h1:s < e.next.length):∃ x,e.next[s.toNat]?= some x:=⟨_,dQ aw⟩
def Ve (st:St N K w) (tg:Tg N w) (su:qG w m v g e) (tm:fe m) (lo:fF w m v g e) (hk:m.op.kind=1) (p:m.pc=10):∃ r,qg w m v g e=some r∧Nc N K w m fF iC r:=by
 obtain ⟨f1,f2,f3,f4,f5,f6,f7⟩:=vB st su;have tg1:=tg.mono (pH N);have l0:=lo.ey (.inl aw);obtain ⟨z1,z2⟩:=lo.slot (.inl p);have ss:=su.slot;obtain ⟨x,hx⟩:=U2 f1 ss.1 ss.2;have hb:=(Bq tg su.at_).2 x (dS hx);unfold qg;rw [dR aw,dR aw,dR aw,dR aw,dR aw,dR aw,dR aw,dR aw,dU p,hx,gh]
 exact zM rfl ⟨uW,st.mono aw aw,tg1,⟨tm.listen,tm.word,by show -1<=x∧x<=2147483646;omega,tm.host,tm.path,tm.d0,tm.d1,tm.cfg,tm.iN⟩,rfl,rfl,jY.refl w _,qj w (wA (eQ su.done hk uM) (eQ su.done hk uM) rfl),.inr ⟨v,g,e,uQ,
  ⟨uL,uK,fun _=>l0,uK,uK,uK,fun _=>⟨z1,z2⟩,fun _ _=>hx,uK,uK⟩⟩⟩
def PT (f1:Slp.eF e=true) (f2:e.next.length<=4):Slp.zC e<=3:=by
 by_cases h:Slp.zC e < 0
 ·omega
 ·have:=(Slp.LR f1 h).2.1;omega
def Ly {x i:Int} {N:Nat} (h:x / 4294967296<=N) (hx:u64 x) (hN:N<=100000000) (h1: -1<=i) (h2:i<=2147483646):Slp.qW x i / 4294967296=x / 4294967296+1:=by
 have:=Slp.RD (x:=x) h1 h2;unfold u64 at hx;omega
def Vf (st:St N K w) (tg:Tg N w) (su:qG w m v g e) (tm:fe m) (lo:fF w m v g e) (hk:m.op.kind=1) (hN:N<=100000000) (p:m.pc=11):∃ r,qg w m v g e=some r∧Nc N K w m fF iC r:=by
 obtain ⟨f1,f2,f3,f4,f5,f6,f7⟩:=vB st su;have tg1:=tg.mono (pH N);have te:=Bq tg su.at_;have l0:=lo.ey (.inl aw);obtain ⟨z1,z2⟩:=lo.slot (.inr p);have ss:=su.slot;unfold qg;rw [dR aw,dR aw,dR aw,dR aw,dR aw,dR aw,dR aw,dR aw,dR aw,dU p];by_cases q:e.head=m.word
 ·have z3:=lo.link p q;have hh:Slp.zC e=m.slot:=by rw [z1,<- q];rfl
  have hx2:Slp.fA e.next m.slot=m.link:=by unfold Slp.fA;rw [z3];rfl
  have ct:=(Slp.Fc (Slp.oS f1).1 aw).2.1;rw [hh,hx2] at ct;have hd:Slp.zC (qw e (Slp.qW m.word m.link) e.zf)=m.link:=Slp.Fp tm.link.1 tm.link.2
  have is2:Slp.eF (qw e (Slp.qW m.word m.link) e.zf)=true:=by
   unfold Slp.eF;rw [hd];simp only [dY,gp];exact ⟨⟨⟨ct,f3⟩,f2⟩,f4⟩
  have nt:=Ly (i:=m.link) te.1 f6.1 hN tm.link.1 tm.link.2;rw [q] at nt;obtain ⟨q1,q2⟩:=UE f6 f1 hh ss.1 hx2;rw [q] at q1 q2;have st2:=(st.mono aw aw:St (N+1) (K+1) w).iS su.at_ (e':=qw e (Slp.qW m.word m.link) e.zf) (tk:=g.zt) is2 rfl ⟨Slp.F7 tm.link.1 tm.link.2,f6.2⟩ f7 aN;rw [dU q];have ta:iR (qw e (Slp.qW m.word m.link) e.zf)=iR e+1:=by unfold iR;rw [q];exact nt
  exact zM rfl ⟨aO,st2,Be tg1 su.at_ (e':=qw e (Slp.qW m.word m.link) e.zf) ⟨by have:=te.1;omega,te.2⟩,uO,rfl,rfl,kW su.at_ (e':=qw e (Slp.qW m.word m.link) e.zf) ⟨rfl,aw,fun h=>by omega,fun _ _ _=>rfl⟩,
   nh (p:=1) (p':=2) (eQ su.done hk uM) (eQ su.done hk uM) (VL su.at_ (e':=qw e (Slp.qW m.word m.link) e.zf) rfl ss.1 ss.2 q1 q2 rfl m.listen),.inr ⟨_,_,_,wF (e':=qw e (Slp.qW m.word m.link) e.zf) (m':={ m with pc:=12 }) su rfl st2.ji rfl su.done rfl rfl rfl rfl rfl rfl rfl rfl,
   ⟨uL,uK,fun _=>l0,uK,uK,uK,uK,uK,uK,uK⟩⟩⟩
 ·rw [dR q]
  exact zM rfl ⟨aP,st.mono aw aw,tg1,uO,rfl,rfl,jY.refl w _,qj w (wA (eQ su.done hk uM) (eQ su.done hk uM) rfl),.inr ⟨v,g,e,uQ,
   ⟨uL,uK,fun _=>l0,uK,uK,uK,uK,uK,uK,uK⟩⟩⟩
def Vg (st:St N K w) (tg:Tg N w) (su:qG w m v g e) (tm:fe m) (lo:fF w m v g e) (hk:m.op.kind=1) (hK:K<=1099511627776) (p:m.pc=12):∃ r,qg w m v g e=some r∧Nc N K w m fF iC r:=by
 obtain ⟨f1,f2,f3,f4,f5,f6,f7⟩:=vB st su;have tg1:=tg.mono (pH N);have l0:=lo.ey (.inl aw);have hw:IntKind.i64.wrap (e.zf+1)=e.zf+1:=jc aw aw;have st2:=(st.mono aw aw:St (N+1) (K+1) w).iS su.at_ (e':=qw e e.head (e.zf+1)) (tk:=g.zt) (LS f1 _ aw) rfl ⟨f6.1,f6.2.1,by show i64 (e.zf+1);unfold i64;omega⟩ f7 (by show e.zf+1<=_;omega);unfold qg;rw [dR aw,dR aw,dR aw,dR aw,dR aw,dR aw,dR aw,dR aw,dR aw,dR aw,dU p,hw]
 exact zM rfl ⟨tN,st2,Be tg1 su.at_ (e':=qw e e.head (e.zf+1)) (show oK (N+1) e from Bq tg1 su.at_),uP,rfl,rfl,kW su.at_ (e':=qw e e.head (e.zf+1)) ⟨rfl,gy _,fun _=>rfl,fun _ _ _=>rfl⟩,
  nh (p:=2) (p':=3) (eQ su.done hk uM) (eQ su.done hk uM) (UZ su.at_ (e':=qw e e.head (e.zf+1)) rfl rfl f4 rfl m.slot m.listen),.inr ⟨_,_,_,wF (e':=qw e e.head (e.zf+1)) (m':={ m with answer:=Bc m,pc:=20 }) su rfl st2.ji rfl su.done rfl rfl rfl rfl rfl rfl rfl rfl,
  ⟨uL,uK,uK,uK,uK,uK,uK,uK,fun _=>⟨by show (1:Int)<=1;decide,by show (1:Int)<=5;decide,fun _=>⟨rfl,l0⟩⟩,uK⟩⟩⟩
def Vh (st:St N K w) (tg:Tg N w) (su:qG w m v g e) (tm:fe m) (lo:fF w m v g e) (hk:m.op.kind=1) (p:m.pc=20):∃ r,qg w m v g e=some r∧Nc N K w m fF iC r:=by
 have kr:=Q7 m.answer.kind;obtain ⟨r2,hl,hc⟩:=Jw st su (pc:=21) kr.1 kr.2;have st2:=(st.mono aw aw:St (N+1) (K+1) w).count m.zg.toNat hl;have an:=lo.iN aw
 have ow:j8 m=j8 { m with pc:=21 }:=by
  by_cases k1:m.answer.kind=1
  ·exact Bt (p:=3) (eQ su.done hk uM) (eQ su.done hk uM) rfl rfl rfl rfl rfl
  ·by_cases k2:0<=m.listen
   ·exact wA (eQ su.done hk uM) (eQ su.done hk uM) rfl
   ·exact ko (eQ su.done hk uM) (eQ su.done hk uM)
 unfold qg;rw [dR aw,dR aw,dR aw,dR aw,dR aw,dR aw,dR aw,dR aw,dR aw,dR aw,dR aw,dU p,hc]
 exact zM rfl ⟨tN,st2,tg.mono (pH N),uO,rfl,rfl,yc (gy _) rfl aj rfl rfl rfl,AP rfl rfl rfl rfl rfl ow,.inr ⟨v,g,e,⟨ql.2 st2.ji,su.zg,su.done,su.version,su.eX,su.zi,su.eG,su.end_,su.eS,su.other,su.slot,su.listen,su.i,su.k⟩,
  ⟨uL,uK,uK,uK,uK,uK,uK,uK,fun _=>an,uK⟩⟩⟩
def Vi (st:St N K w) (tg:Tg N w) (su:qG w m v g e) (tm:fe m) (lo:fF w m v g e) (hk:m.op.kind=1) (p:m.pc=21):∃ r,qg w m v g e=some r∧Nc N K w m fF iC r:=by
 obtain ⟨r2,hl,hc⟩:=Jw st su (k:=0) (pc:=if m.answer.kind=1∨m.listen < 0 then 23 else 22) ar ar;have st2:=(st.mono aw aw:St (N+1) (K+1) w).count m.zg.toNat hl;have an:=lo.iN aw;unfold qg;rw [dR aw,dR aw,dR aw,dR aw,dR aw,dR aw,dR aw,dR aw,dR aw,dR aw,dR aw,dR aw,dU p,hc];by_cases q:m.answer.kind=1∨m.listen < 0
 ·rw [dU q]
  have ow:j8 m=j8 { m with pc:=23 }:=by
   by_cases k1:m.answer.kind=1
   ·exact Bt (p:=3) (eQ su.done hk uM) (eQ su.done hk uM) rfl rfl rfl rfl rfl
   ·exact ko (eQ su.done hk uM) (eQ su.done hk uM)
  exact zM rfl ⟨tN,st2,tg.mono (pH N),uO,rfl,rfl,yc (gy _) rfl aj rfl rfl rfl,AP rfl rfl rfl rfl rfl ow,.inr ⟨v,g,e,⟨ql.2 st2.ji,su.zg,su.done,su.version,su.eX,su.zi,su.eG,su.end_,su.eS,su.other,su.slot,su.listen,su.i,su.k⟩,
   ⟨uL,uK,uK,uK,uK,uK,uK,uK,fun _=>an,uK⟩⟩⟩
 ·rw [dR q]
  exact zM rfl ⟨tN,st2,tg.mono (pH N),uO,rfl,rfl,yc (gy _) rfl aj rfl rfl rfl,AP rfl rfl rfl rfl rfl (wA (eQ su.done hk uM) (eQ su.done hk uM) rfl),.inr ⟨v,g,e,⟨ql.2 st2.ji,su.zg,su.done,su.version,su.eX,su.zi,su.eG,su.end_,su.eS,su.other,su.slot,su.listen,su.i,su.k⟩,
   ⟨uL,uK,fun _=>by show 0<=m.listen;omega,uK,uK,uK,uK,uK,fun _=>an,fun _ h=>q (.inl h)⟩⟩⟩
def Ck (ow:∀ x,j8 m x<=Has w x) {p:Nat} (h:ph m=p) (x:Key) (hx:1<=qf p m.version m.zi m.end_ m.slot m.listen x):1<=Has w x:=by
 have:=ow x;rw [jw h] at this;omega
def Lp (ow:∀ x,j8 m x<=Has w x) {p:Nat} (h:ph m=p) (hp:1<=p∧p<=4):0<=m.listen∧∃ x,w.zd[m.listen.toNat]?= some x∧1<=x.zf:=by
 have:=Ck ow h (.ey m.listen) (by simp [qf,hp]);simp only [Has] at this;split at this
 ·rename_i q;split at this
  ·rename_i x hx;exact ⟨q,x,hx,aw⟩
  ·omega
 ·omega
def UM (st:St N K w) (tg:Tg N w) (su:qG w m v g e) (tm:fe m) (lo:fF w m v g e) (hk:m.op.kind=1) (hK:K<=1099511627776) (ow:∀ x,j8 m x<=Has w x) (p:m.pc=22):∃ r,qg w m v g e=some r∧Nc N K w m fF iC r:=by
 have l0:=lo.ey (.inr p);have k1:=lo.kind p;have p1:ph m=1:=(eQ su.done hk uM);obtain ⟨_,x,hx,x1⟩:=Lp ow p1 ar;have ca:=st.fL.ey x (dS hx);have hw:IntKind.i64.wrap (x.zf - 1)=x.zf - 1:=jc aw aw;have st2:=Gh st su hx (x.zf - 1) aw aw hK;have an:=lo.iN aw;unfold qg iI;rw [dR aw,dR aw,dR aw,dR aw,dR aw,dR aw,dR aw,dR aw,dR aw,dR aw,dR aw,dR aw,dR aw,dU p,dR aw,hx,gh];unfold o5;rw [hw]
 exact zM rfl ⟨tN,st2,tg.mono (pH N),uO,rfl,rfl,B5 hx rfl id,nh (p:=1) (p':=0) p1 (eQ su.done hk uM) (Lw l0 hx x1 rfl _ _ _ _ _ _ _ _ _),.inr ⟨v,g,e,⟨ql.2 st2.ji,su.zg,su.done,su.version,su.eX,su.zi,su.eG,su.end_,su.eS,su.other,su.slot,aq su.listen,su.i,su.k⟩,
  ⟨uL,uK,uK,uK,uK,uK,uK,uK,fun _=>an,uK⟩⟩⟩
def UN (st:St N K w) (tg:Tg N w) (su:qG w m v g e) (tm:fe m) (lo:fF w m v g e) (hk:m.op.kind=1) (p:m.pc=23):∃ r,qg w m v g e=some r∧Nc N K w m fF iC r:=by
 have ep:=(zY.1 st.ji.ground).zn;have st2:=(st.mono aw aw:St (N+1) (K+1) w).lK m.zg.toNat (p:=0) aw aw;have an:=lo.iN aw
 have ow:j8 m=j8 { m with done:=true }:=by
  by_cases k1:m.answer.kind=1
  ·exact Bt (p:=3) (eQ su.done hk uM) (Km rfl hk k1) rfl rfl rfl rfl rfl
  ·exact ko (eQ su.done hk uM) (yL rfl (fun h=>k1 h.2))
 unfold qg;rw [dR aw,dR aw,dR aw,dR aw,dR aw,dR aw,dR aw,dR aw,dR aw,dR aw,dR aw,dR aw,dR aw,dR aw,dU p];exact zM rfl ⟨tJ,st2,tg.mono (pH N),uP,rfl,rfl,yc (gy _) aj rfl rfl rfl rfl,AP rfl rfl rfl rfl rfl ow,.inl ⟨rfl,an⟩⟩
def QK (st:St N K w) (tg:Tg N w) (su:qG w m v g e) (tm:fe m) (lo:fF w m v g e) (hk:m.op.kind=1) (hN:N<=100000000) (hK:K<=1099511627776) (ow:∀ x,j8 m x<=Has w x):∃ r,qg w m v g e=some r∧Nc N K w m fF iC r:=by
 have pc:=lo.pc;by_cases h3:m.pc < 3
 ·exact UO st tg su tm lo hk h3
 rcases (by omega:m.pc=3∨m.pc=4∨m.pc=5∨m.pc=6∨m.pc=7∨m.pc=8∨m.pc=9∨m.pc=10∨m.pc=11∨m.pc=12∨m.pc=20∨m.pc=21∨m.pc=22∨m.pc=23) with p | p | p | p | p | p | p | p | p | p | p | p | p | p
 ·exact WM st tg su tm lo hk hN p
 ·exact WN st tg su tm lo hk hK p
 ·exact WO st tg su tm lo hk p
 ·exact WQ st tg su tm lo hk p
 ·exact WR st tg su tm lo hk p
 ·exact WS st tg su tm lo hk p
 ·exact WT st tg su tm lo hk p
 ·exact Ve st tg su tm lo hk p
 ·exact Vf st tg su tm lo hk hN p
 ·exact Vg st tg su tm lo hk hK p
 ·exact Vh st tg su tm lo hk p
 ·exact Vi st tg su tm lo hk p
 ·exact UM st tg su tm lo hk hK ow p
 ·exact UN st tg su tm lo hk p
end
end Go.Wor
