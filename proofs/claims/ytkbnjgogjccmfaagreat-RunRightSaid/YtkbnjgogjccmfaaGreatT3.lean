import Derived.Test.YtkbnjgogjccmfaaGreatT1
set_option linter.all false
set_option maxRecDepth 100000
set_option maxHeartbeats 4000000
namespace Go.Wor
open Go.Ab Go.Proofs Tryz Go.Hy Go.Gat Go.Nam Go.Hos Go.Con Go.Sna
inductive Key
 | slot (i j k s:Int)
 | act (i j k:Int)
 | ec (i:Int)
 | eJ (i:Int)
 | lock
def ph (m:uw):Nat:=
 if m.done=true then (if m.op.kind=1∧m.answer.kind=1 then 3 else 0)
 else if m.op.kind=1 then (if 5<=m.pc∧m.pc<=11 then 1 else if m.pc=12 then 2 else if 20<=m.pc then (if m.answer.kind=1 then 3 else if m.pc<=22∧0<=m.listen then 1 else 0) else 0)
 else if m.op.kind=2 then (if m.pc<=2 then 3 else if m.pc=3 then 4 else if m.pc=4 then 1 else 0)
 else if m.op.kind=3 then (if 1<=m.pc then 5 else 0)
 else if m.op.kind=5 then (if 1<=m.pc then 6 else 0)
 else 0
def qe (p:Nat) (i j k s l:Int):Key->Nat
 | .slot i' j' k' s'=>if (p=2∨p=3)∧i=i'∧j=j'∧k=k'∧s=s' then 1 else 0
 | .act i' j' k'=>if (p=3∨p=4)∧i=i'∧j=j'∧k=k' then 1 else 0
 | .ec l'=>if (1<=p∧p<=4)∧l=l' then 1 else 0
 | .eJ i'=>if p=5∧i=i' then 1 else 0
 | .lock=>if p=6 then 1 else 0
def jY (m:uw):Key->Nat:=qe (ph m) m.version m.zi m.end_ m.slot m.listen
def iI (a:ef):Key->Nat:=qe 3 a.version a.zi a.end_ a.slot a.listen
def jt {m:uw} {p:Nat} (h:ph m=p):jY m=qe p m.version m.zi m.end_ m.slot m.listen:=by unfold jY;rw [h]
def ku (i j k s l:Int) (x:Key):qe 0 i j k s l x=0:=by cases x <;> simp [qe]
def VL (i j k s l i' j' k' s':Int):qe 1 i j k s l=qe 1 i' j' k' s' l:=by funext x;cases x <;> simp [qe]
def VM (i j k s l j' k' s' l':Int):qe 5 i j k s l=qe 5 i j' k' s' l':=by funext x;cases x <;> simp [qe]
def VN (i j k s l i' j' k' s' l':Int):qe 6 i j k s l=qe 6 i' j' k' s' l':=by funext x;cases x <;> simp [qe]
def eI {m:uw} {n:Nat} (hd:m.done=false) (hk:m.op.kind=1) (h:(if 5<=m.pc∧m.pc<=11 then 1 else if m.pc=12 then 2 else if 20<=m.pc then (if m.answer.kind=1 then 3 else if m.pc<=22∧0<=m.listen then 1 else 0) else 0)=n):ph m=n:=by
 unfold ph;rw [dN aI,dQ hk];exact h
def fX {m:uw} {n:Nat} (hd:m.done=false) (hk:m.op.kind=2) (h:(if m.pc<=2 then 3 else if m.pc=3 then 4 else if m.pc=4 then 1 else 0)=n):ph m=n:=by
 unfold ph;rw [dN aI,dN aw,dQ hk];exact h
def nS {m:uw} {n:Nat} (hd:m.done=false) (hk:m.op.kind=3) (h:(if 1<=m.pc then 5 else 0)=n):ph m=n:=by
 unfold ph;rw [dN aI,dN aw,dN aw,dQ hk];exact h
def fR {m:uw} {n:Nat} (hd:m.done=false) (hk:m.op.kind=5) (h:(if 1<=m.pc then 6 else 0)=n):ph m=n:=by
 unfold ph;rw [dN aI,dN aw,dN aw,dN aw,dQ hk];exact h
def Cb {m:uw} (hd:m.done=false) (h1:m.op.kind≠1) (h2:m.op.kind≠2) (h3:m.op.kind≠3) (h5:m.op.kind≠5):ph m=0:=by
 unfold ph;rw [dN aI,dN h1,dN h2,dN h3,dN h5]
def yG {m:uw} (hd:m.done=true) (h:¬(m.op.kind=1∧m.answer.kind=1)):ph m=0:=by
 unfold ph;rw [dQ hd,dN h]
def JV {m:uw} (hd:m.done=true) (hk:m.op.kind=1) (h:m.answer.kind=1):ph m=3:=by
 unfold ph;rw [dQ hd,dQ ⟨hk,h⟩]
def wY (w:Wor) (i j k:Int):Option En:=if 0<=i∧0<=j∧0<=k then wc w i j k else none
def fG (e:En) (s:Int):Nat:=if 0<=s∧s < e.next.length∧s ∉ (Slp.qz e).1 then 1 else 0
def Has (w:Wor):Key->Nat
 | .slot i j k s=>match wY w i j k with
  | some e=>fG e s
  | none=>0
 | .act i j k=>match wY w i j k with
  | some e=>e.zg.toNat
  | none=>0
 | .ec i=>if 0<=i then (match w.zd[i.toNat]? with
  | some l=>l.zg.toNat
  | none=>0) else 0
 | .eJ i=>if 0<=i∧i < w.ze.length∧i≠w.current∧∀ r ∈ w.zr,r.version≠i then 1 else 0
 | .lock=>w.lock.toNat
def Mv (w w':Wor) (a b:Key->Nat):Prop:=∀ x,Has w' x+a x=Has w x+b x
def Ly {w:Wor} {m:uw} {v:u3} {g:Gr} {e:En} (hat:fc w m v g e):wY w m.version m.zi m.end_=some e:=by
 unfold wY;rw [dQ ⟨hat.v0,hat.g0,hat.e0⟩];exact FP hat
def Ki {w:Wor} {m:uw} {v:u3} {g:Gr} {e:En} (hat:fc w m v g e) (e':En) (tk i j k:Int):wY (iR w m v g e' tk) i j k=if i=m.version∧j=m.zi∧k=m.end_ then some e' else wY w i j k:=by
 have p1:=hat.v0;have p2:=hat.g0;have p3:=hat.e0;unfold wY;rw [E7 hat];by_cases h:0<=i∧0<=j∧0<=k
 ·rw [dQ h,dQ h];by_cases q:i=m.version∧j=m.zi∧k=m.end_
  ·rw [dQ q,dQ (by rw [q.1,q.2.1,q.2.2];exact ⟨rfl,rfl,rfl⟩)]
  ·rw [dN q,dN (fun z=>q aw)]
 ·rw [dN h,dN h,dN (fun z=>h aw)]
def Jg {w w':Wor} (h:w'.ze=w.ze) (i j k:Int):wY w' i j k=wY w i j k:=by unfold wY wc;rw [h]
def qi (w:Wor) {a b:Key->Nat} (h:a=b):Mv w w a b:=fun x=>by rw [h]
def AB {w w':Wor} {a b:Key->Nat} (h1:w'.ze=w.ze) (h2:w'.zd=w.zd) (h3:w'.zr=w.zr) (h4:w'.current=w.current) (h5:w'.lock=w.lock) (h:a=b):Mv w w' a b:=fun x=>by
 rw [h];cases x with
 | slot i j k s=>simp only [Has,Jg h1]
 | act i j k=>simp only [Has,Jg h1]
 | ec i=>simp only [Has,h2]
 | eJ i=>simp only [Has,h1,h3,h4]
 | lock=>simp only [Has,h5]
section
variable {w:Wor} {m:uw} {v:u3} {g:Gr} {e e':En} {tk:Int}
def TL (hat:fc w m v g e) (e':En) (tk:Int) (x:Key):Has (iR w m v g e' tk) x=match x with
  | .slot i j k s=>if i=m.version∧j=m.zi∧k=m.end_ then fG e' s else Has w x
  | .act i j k=>if i=m.version∧j=m.zi∧k=m.end_ then e'.zg.toNat else Has w x
  | x=>Has w x:=by
 cases x with
 | slot i j k s=>
  simp only [Has,Ki hat];by_cases q:i=m.version∧j=m.zi∧k=m.end_
  ·rw [dQ q,dQ q]
  ·rw [dN q,dN q]
 | act i j k=>
  simp only [Has,Ki hat];by_cases q:i=m.version∧j=m.zi∧k=m.end_
  ·rw [dQ q,dQ q]
  ·rw [dN q,dN q]
 | ec i=>rfl
 | eJ i=>simp only [Has,iR,rA]
 | lock=>rfl
def FF (hat:fc w m v g e) (s:Int):Has w (.slot m.version m.zi m.end_ s)=fG e s:=by simp only [Has,Ly hat]
def LB (hat:fc w m v g e):Has w (.act m.version m.zi m.end_)=e.zg.toNat:=by simp only [Has,Ly hat]
def B9 (hat:fc w m v g e) {a b:Key->Nat} (hs:∀ s,fG e' s+a (.slot m.version m.zi m.end_ s)=fG e s+b (.slot m.version m.zi m.end_ s)) (ha:e'.zg.toNat+a (.act m.version m.zi m.end_)=e.zg.toNat+b (.act m.version m.zi m.end_))
  (h:∀ x,(∀ s,x≠.slot m.version m.zi m.end_ s)->x≠.act m.version m.zi m.end_->a x=b x):Mv w (iR w m v g e' tk) a b:=fun x=>by
 rw [TL hat];cases x with
 | slot i j k s=>
  dsimp only;by_cases q:i=m.version∧j=m.zi∧k=m.end_
  ·rw [dQ q];obtain ⟨rfl,rfl,rfl⟩:=q;rw [FF hat];exact hs s
  ·rw [dN q,h (.slot i j k s) (fun s' z=>q (by cases z;exact ⟨rfl,rfl,rfl⟩)) (fun z=>nomatch z)]
 | act i j k=>
  dsimp only;by_cases q:i=m.version∧j=m.zi∧k=m.end_
  ·rw [dQ q];obtain ⟨rfl,rfl,rfl⟩:=q;rw [LB hat];exact ha
  ·rw [dN q,h (.act i j k) (fun s' z=>nomatch z) (fun z=>q (by cases z;exact ⟨rfl,rfl,rfl⟩))]
 | ec i=>dsimp only;rw [h (.ec i) (fun s' z=>nomatch z) (fun z=>nomatch z)]
 | eJ i=>dsimp only;rw [h (.eJ i) (fun s' z=>nomatch z) (fun z=>nomatch z)]
 | lock=>dsimp only;rw [h (.lock) (fun s' z=>nomatch z) (fun z=>nomatch z)]
def Le (hat:fc w m v g e) (hl:e'.next.length=e.next.length) (hf:(Slp.qz e').1=(Slp.qz e).1) (ha:e'.zg=e.zg) {a b:Key->Nat} (h:a=b):Mv w (iR w m v g e' tk) a b:=
 B9 hat (fun s=>by rw [h];unfold fG;rw [hl,hf]) (by rw [h,ha]) fun x _ _=>by rw [h]
def VD (hat:fc w m v g e) (hl:e'.next.length=e.next.length) {s:Int} (h0:0<=s) (h1:s < e.next.length) (hf:(Slp.qz e).1=s::(Slp.qz e').1) (hn:s ∉ (Slp.qz e').1) (ha:e'.zg=e.zg) (l:Int):Mv w (iR w m v g e' tk) (qe 1 m.version m.zi m.end_ s l) (qe 2 m.version m.zi m.end_ s l):=by
 refine B9 hat (fun t=>?_) (by simp [qe,ha]) fun x q1 q2=>?_
 ·unfold fG;rw [hl,hf];simp only [qe,rq,sT];by_cases q:s=t
  ·subst q;simp [h0,h1,hn]
  ·have q':¬t=s:=fun z=>q z.symm
   simp [q,q']
 ·cases x with
  | slot i j k t=>
   simp only [qe];rw [dN aj,dN (fun z=>q1 t (by rw [z.2.1,z.2.2.1,z.2.2.2.1]))]
  | act i j k=>simp [qe]
  | ec i=>simp [qe]
  | eJ i=>simp [qe]
  | lock=>simp [qe]
def U9 (hat:fc w m v g e) (hl:e'.next.length=e.next.length) {s:Int} (h0:0<=s) (h1:s < e.next.length) (hf:(Slp.qz e').1=s::(Slp.qz e).1) (hn:s ∉ (Slp.qz e).1) (ha:e'.zg=e.zg) (l:Int):Mv w (iR w m v g e' tk) (qe 3 m.version m.zi m.end_ s l) (qe 4 m.version m.zi m.end_ s l):=by
 refine B9 hat (fun t=>?_) (by simp [qe,ha]) fun x q1 q2=>?_
 ·unfold fG;rw [hl,hf];simp only [qe,rq,sT];by_cases q:s=t
  ·subst q;simp [h0,h1,hn]
  ·have q':¬t=s:=fun z=>q z.symm
   simp [q,q']
 ·cases x with
  | slot i j k t=>
   simp only [qe];rw [dN (fun z=>q1 t (by rw [z.2.1,z.2.2.1,z.2.2.2.1])),dN aj]
  | act i j k=>simp [qe]
  | ec i=>simp [qe]
  | eJ i=>simp [qe]
  | lock=>simp [qe]
def U8 (hat:fc w m v g e) (hl:e'.next.length=e.next.length) (hf:(Slp.qz e').1=(Slp.qz e).1) (h0:0<=e.zg) (ha:e'.zg=e.zg+1) (s l:Int):Mv w (iR w m v g e' tk) (qe 2 m.version m.zi m.end_ s l) (qe 3 m.version m.zi m.end_ s l):=by
 refine B9 hat (fun t=>by unfold fG;rw [hl,hf];simp [qe]) (by simp [qe,ha];omega) fun x q1 q2=>?_
 cases x with
 | slot i j k t=>simp [qe]
 | act i j k=>
  simp only [qe];rw [dN aj,dN (fun z=>q2 (by rw [z.2.1,z.2.2.1,z.2.2.2]))]
 | ec i=>simp [qe]
 | eJ i=>simp [qe]
 | lock=>simp [qe]
def U6 (hat:fc w m v g e) (hl:e'.next.length=e.next.length) (hf:(Slp.qz e').1=(Slp.qz e).1) (h0:1<=e.zg) (ha:e'.zg=e.zg - 1) (s l:Int):Mv w (iR w m v g e' tk) (qe 4 m.version m.zi m.end_ s l) (qe 1 m.version m.zi m.end_ s l):=by
 refine B9 hat (fun t=>by unfold fG;rw [hl,hf];simp [qe]) (by simp [qe,ha];omega) fun x q1 q2=>?_
 cases x with
 | slot i j k t=>simp [qe]
 | act i j k=>
  simp only [qe];rw [dN (fun z=>q2 (by rw [z.2.1,z.2.2.1,z.2.2.2])),dN aj]
 | ec i=>simp [qe]
 | eJ i=>simp [qe]
 | lock=>simp [qe]
end
def GU {w:Wor} {i:Int} {x y:eE} (hi:0<=i) (hx:w.zd[i.toNat]?= some x) {a b:Key->Nat} (h0:y.zg.toNat+a (.ec i)=x.zg.toNat+b (.ec i)) (h:∀ k,k≠.ec i->a k=b k):Mv w { w with zd:=w.zd.set i.toNat y } a b:=fun k=>by
 cases k with
 | ec n=>
  by_cases q:n=i
  ·subst q;simp only [Has];rw [dQ hi,dQ hi,dS (dL.1 hx).1,hx];exact h0
  ·rw [h (.ec n) (fun z=>q (by cases z;rfl))];simp only [Has];by_cases n0:0<=n
   ·rw [dQ n0,dQ n0,gJ aw]
   ·rw [dN n0,dN n0]
 | slot a' b' c s=>rw [h (.slot a' b' c s) (fun z=>nomatch z)];rfl
 | act a' b' c=>rw [h (.act a' b' c) (fun z=>nomatch z)];rfl
 | eJ n=>rw [h (.eJ n) (fun z=>nomatch z)];rfl
 | lock=>rw [h .lock (fun z=>nomatch z)];rfl
def Tf {w:Wor} {i:Int} {x y:eE} (hi:0<=i) (hx:w.zd[i.toNat]?= some x) (h0:0<=x.zg) (hy:y.zg=x.zg+1) (a b c d a' b' c' d' l:Int):Mv w { w with zd:=w.zd.set i.toNat y } (qe 0 a b c d l) (qe 1 a' b' c' d' i):=by
 refine GU hi hx (by simp [qe];omega) fun k q=>?_
 cases k with
 | ec n=>simp only [qe];rw [dN aj,dN (fun z=>q (by rw [z.2]))]
 | slot a' b' c s=>simp [qe]
 | act a' b' c=>simp [qe]
 | eJ n=>simp [qe]
 | lock=>simp [qe]
def K5 {w:Wor} {i:Int} {x y:eE} (hi:0<=i) (hx:w.zd[i.toNat]?= some x) (h0:1<=x.zg) (hy:y.zg=x.zg - 1) (a b c d a' b' c' d' l:Int):Mv w { w with zd:=w.zd.set i.toNat y } (qe 1 a b c d i) (qe 0 a' b' c' d' l):=by
 refine GU hi hx (by simp [qe];omega) fun k q=>?_
 cases k with
 | ec n=>simp only [qe];rw [dN (fun z=>q (by rw [z.2])),dN aj]
 | slot a' b' c s=>simp [qe]
 | act a' b' c=>simp [qe]
 | eJ n=>simp [qe]
 | lock=>simp [qe]
def Jd {w:Wor} {i:Int} {x y:eE} (hi:0<=i) (hx:w.zd[i.toNat]?= some x) (hy:y.zg=x.zg) {a b:Key->Nat} (h:a=b):Mv w { w with zd:=w.zd.set i.toNat y } a b:=
 GU hi hx (by rw [h,hy]) fun _ _=>by rw [h]
def kf {m m':uw} (h:ph m=0) (h':ph m'=0):jY m=jY m':=by
 funext x
 rw [jt h,jt h',ku,ku]
def wu {m m':uw} (h:ph m=1) (h':ph m'=1) (hl:m'.listen=m.listen):jY m=jY m':=by
 rw [jt h,jt h',hl];exact VL ..
def Bg {p:Nat} {m m':uw} (h:ph m=p) (h':ph m'=p) (h1:m'.version=m.version) (h2:m'.zi=m.zi) (h3:m'.end_=m.end_) (h4:m'.slot=m.slot) (h5:m'.listen=m.listen):jY m=jY m':=by
 rw [jt h,jt h',h1,h2,h3,h4,h5]
def Wd {m m':uw} (h:ph m=5) (h':ph m'=5) (hl:m'.version=m.version):jY m=jY m':=by
 rw [jt h,jt h',hl];exact VM ..
def kh {m m':uw} (h:ph m=6) (h':ph m'=6):jY m=jY m':=by
 rw [jt h,jt h'];exact VN ..
def mX {w w':Wor} {m m':uw} {p p':Nat} (h:ph m=p) (h':ph m'=p') (x:Mv w w' (qe p m.version m.zi m.end_ m.slot m.listen) (qe p' m'.version m'.zi m'.end_ m'.slot m'.listen)):Mv w w' (jY m) (jY m'):=by
 rw [jt h,jt h'];exact x
def iL (e:En):Int:=e.head / 4294967296
def oA (N:Nat) (e:En):Prop:=iL e<=N∧∀ x ∈ e.next, -1<=x∧x<=3
def Tg (N:Nat) (w:Wor):Prop:=∀ v ∈ w.ze,∀ g ∈ v.zm,∀ e ∈ g.ends,oA N e
def Tg.mono {N N':Nat} {w:Wor} (h:Tg N w) (hN:N<=N'):Tg N' w:=fun v hv g hg e he=>⟨by have:=(h v hv g hg e he).1;omega,(h v hv g hg e he).2⟩
structure An (e e':En) (o:Int->Nat):Prop where
 len:e'.next.length=e.next.length
 tag:iL e<=iL e'
 head:iL e'=iL e->e'.head=e.head
 next:∀ s,0<=s->o s=0->e'.next[s.toNat]?= e.next[s.toNat]?
def An.refl (e:En) (o:Int->Nat):An e e o:=⟨rfl,gk _,fun _=>rfl,fun _ _ _=>rfl⟩
structure Ba (g g':Gr) (o:Nat->Int->Nat):Prop where
 len:g'.ends.length=g.ends.length
 ends : ∀ (k : Nat) e e', g.ends[k]? = some e -> g'.ends[k]? = some e' -> An e e' (o k)
def Ba.refl (g:Gr) (o:Nat->Int->Nat):Ba g g o:=⟨rfl,fun k e e' h h'=>by rw [h] at h';cases h';exact An.refl e _⟩
structure oa (v v':u3) (o:Nat->Nat->Int->Nat):Prop where
 snap:v'.snap=v.snap
 len:v'.zm.length=v.zm.length
 nO:∀ (j:Nat) g g',v.zm[j]?= some g->v'.zm[j]?= some g'->Ba g g' (o j)
def oa.refl (v:u3) (o:Nat->Nat->Int->Nat):oa v v o:=⟨rfl,rfl,fun j g g' h h'=>by rw [h] at h';cases h';exact Ba.refl g _⟩
structure jT (w w':Wor) (o:Key->Nat):Prop where
 zn:w.zn<=w'.zn
 pins:w'.pins.length=w.pins.length
 counts:w'.counts.length=w.counts.length
 iu:w.ze.length<=w'.ze.length
 eJ:∀ (i:Nat) v v',w.ze[i]?= some v->w'.ze[i]?= some v'->oa v v' fun j k s=>o (.slot i j k s)
 ec:w'.zd.length=w.zd.length
 wP:∀ (i:Nat) l l',w.zd[i]?= some l->w'.zd[i]?= some l'->l'.name=l.name∧(l.drain=true->l'.drain=true)
 fQ:w.zr.length<=w'.zr.length
 zr:∀ (i:Nat) r r',w.zr[i]?= some r->w'.zr[i]?= some r'->r'.version=r.version∧r'.at_=r.at_∧(o .lock=0->r'.gone=r.gone)
def jm {α:Type} {l:List α} {i:Nat} {x y:α} (h:l[i]?= some x) (h':l[i]?= some y):y=x:=by rw [h] at h';cases h';rfl
def xY {w w':Wor} {o:Key->Nat} (h0:w.zn<=w'.zn) (h1:w'.pins.length=w.pins.length) (h2:w'.counts.length=w.counts.length) (h3:w'.ze=w.ze) (h4:w'.zd=w.zd) (h5:w'.zr=w.zr):jT w w' o:=by
 refine ⟨h0,h1,h2,by rw [h3];exact dW _,fun i v v' h h'=>?_,by rw [h4],fun i l l' h h'=>?_,by rw [h5];exact dW _,fun i r r' h h'=>?_⟩
 ·rw [h3] at h';rw [jm h h'];exact oa.refl v _
 ·rw [h4] at h';rw [jm h h'];exact ⟨rfl,id⟩
 ·rw [h5] at h';rw [jm h h'];exact dG
def jT.refl (w:Wor) (o:Key->Nat):jT w w o:=xY (gk _) rfl rfl rfl rfl rfl
def kS {w:Wor} {m:uw} {v:u3} {g:Gr} {e e':En} {tk:Int} {o:Key->Nat} (hat:fc w m v g e) (h:An e e' fun s=>o (.slot m.version m.zi m.end_ s)):jT w (iR w m v g e' tk) o:=by
 have p1:=hat.v0;have p2:=hat.g0;have p3:=hat.e0;refine ⟨gk _,rfl,rfl,by show _<=(w.ze.set _ _).length;rw [rA];exact dW _,fun i v1 v2 h1 h2=>?_,rfl,fun i l l' h1 h2=>?_,dW _,fun i r r' h1 h2=>?_⟩
 ·rcases xW h2 with ⟨rfl,rfl,_⟩ | ⟨_,h2⟩
  ·rw [jm hat.at_ h1];refine ⟨rfl,aj,fun j g1 g2 h3 h4=>?_⟩;rcases xW h4 with ⟨rfl,rfl,_⟩ | ⟨_,h4⟩
   ·rw [jm hat.ey h3];refine ⟨aj,fun k e1 e2 h5 h6=>?_⟩;rcases xW h6 with ⟨rfl,rfl,_⟩ | ⟨_,h6⟩
    ·rw [jm hat.eL h5,pP p1,pP p2,pP p3];exact h
    ·rw [jm h5 h6];exact An.refl e1 _
   ·rw [jm h3 h4];exact Ba.refl g1 _
  ·rw [jm h1 h2];exact oa.refl v1 _
 ·rw [jm h1 h2];exact ⟨rfl,id⟩
 ·rw [jm h1 h2];exact dG
def BV {w:Wor} {i:Nat} {x y:eE} {o:Key->Nat} (hx:w.zd[i]?= some x) (hn:y.name=x.name) (hd:x.drain=true->y.drain=true):jT w { w with zd:=w.zd.set i y } o:=by
 refine ⟨gk _,rfl,rfl,dW _,fun i v1 v2 h1 h2=>?_,aj,fun j l l' h1 h2=>?_,dW _,fun i r r' h1 h2=>?_⟩
 ·rw [jm h1 h2];exact oa.refl v1 _
 ·rcases xW h2 with ⟨rfl,rfl,_⟩ | ⟨_,h2⟩
  ·rw [jm hx h1];exact ⟨hn,hd⟩
  ·rw [jm h1 h2];exact ⟨rfl,id⟩
 ·rw [jm h1 h2];exact dG
def KV {α:Type} {l l2:List α} {i:Nat} {x y:α} (h:l[i]?= some x) (h':(l++l2)[i]?= some y):y=x:=by
 rw [dT (dL.1 h).1] at h';exact jm h h'
def RE {w:Wor} {v:u3} {n:Int} {o:Key->Nat}:jT w { w with current:=n,ze:=w.ze++[v] } o:=by
 refine ⟨gk _,rfl,rfl,aj,fun i v1 v2 h1 h2=>?_,rfl,fun i l l' h1 h2=>?_,dW _,fun i r r' h1 h2=>?_⟩
 ·rw [KV h1 h2];exact oa.refl v1 _
 ·rw [jm h1 h2];exact ⟨rfl,id⟩
 ·rw [jm h1 h2];exact dG
def TT {w:Wor} {x:eC} {o:Key->Nat}:jT w { w with zr:=w.zr++[x] } o:=by
 refine ⟨gk _,rfl,rfl,dW _,fun i v1 v2 h1 h2=>?_,rfl,fun i l l' h1 h2=>?_,aj,fun i r r' h1 h2=>?_⟩
 ·rw [jm h1 h2];exact oa.refl v1 _
 ·rw [jm h1 h2];exact ⟨rfl,id⟩
 ·rw [KV h1 h2];exact dG
def QK {w:Wor} {i k:Nat} {v:u3} {x:eC} {o:Key->Nat} (ho:o .lock=1) (hv:w.ze[k]?= some v) (hx:w.zr[i]?= some x):jT w { w with ze:=w.ze.set k (nX v),zr:=w.zr.set i (wj x) } o:=by
 refine ⟨gk _,rfl,rfl,aj,fun j v1 v2 h1 h2=>?_,rfl,fun i l l' h1 h2=>?_,aj,fun j r r' h1 h2=>?_⟩
 ·rcases xW h2 with ⟨rfl,rfl,_⟩ | ⟨_,h2⟩
  ·rw [jm hv h1];exact ⟨rfl,rfl,fun j g g' h3 h4=>by rw [jm h3 (show v.zm[j]?= some g' from h4)];exact Ba.refl g _⟩
  ·rw [jm h1 h2];exact oa.refl v1 _
 ·rw [jm h1 h2];exact ⟨rfl,id⟩
 ·rcases xW h2 with ⟨rfl,rfl,_⟩ | ⟨_,h2⟩
  ·rw [jm hx h1];exact ⟨rfl,rfl,fun z=>by omega⟩
  ·rw [jm h1 h2];exact dG
structure ft (w:Wor) (m:uw) (v:u3) (g:Gr) (e:En):Prop where
 pc:(0<=m.pc∧m.pc<=12)∨(20<=m.pc∧m.pc<=23)
 ep:m.pc=1∨m.pc=2->0<=m.zn∧m.zn<=w.zn
 ec:(4<=m.pc∧m.pc<=12)∨m.pc=22->0<=m.listen
 early:4<=m.pc∧m.pc<=5->m.zi=0∧m.end_=0∧m.other=0
 oE:4<=m.pc∧m.pc<=8->m.slot=0
 draw:m.pc=6->∃ c,v.snap.zk[m.zi.toNat]?= some c∧(ux c).length≠0
 slot:m.pc=10∨m.pc=11->m.slot=zC m.word∧m.word / 4294967296<=iL e
 link:m.pc=11->e.head=m.word->e.next[m.slot.toNat]?= some m.link
 iF:20<=m.pc->1<=m.answer.kind∧m.answer.kind<=5∧(m.answer.kind=1->m.answer=AS m∧0<=m.listen)
 kind:m.pc=22->m.answer.kind≠1
structure Eu (w:Wor) (m:uw) (v:u3) (g:Gr) (e:En):Prop where
 pc:(0<=m.pc∧m.pc<=4)∨m.pc=9
 ec:m.pc<=4->0<=m.listen
 tag:m.pc=1∨m.pc=2->m.word / 4294967296<=iL e∧zC m.word<=3
 next:m.pc=2->e.next[m.slot.toNat]?= some (zC m.word)
structure Ew (w:Wor) (m:uw) (v:u3) (g:Gr) (e:En):Prop where
 pc:0<=m.pc∧m.pc<=2
 ep:m.pc=2->0<=m.zn∧m.zn<=w.zn
structure CT (w:Wor) (m:uw) (v:u3) (g:Gr) (e:En):Prop where
 pc:(0<=m.pc∧m.pc<=6)∨(8<=m.pc∧m.pc<=10)
 lu:m.pc=2->m.i < w.pins.length
 fQ:m.pc=5∨m.pc=6->∃ r,w.zr[m.i.toNat]?= some r∧r.version=m.version∧r.gone=false
 act:m.pc=5->m.k < (yo v).length
 ec:m.pc=9∨m.pc=10->∃ l,w.zd[m.i.toNat]?= some l∧l.drain=true
structure BA (w:Wor) (m:uw) (v:u3) (g:Gr) (e:En):Prop where
 pc:m.pc=0
 k:m.k < 6
 i:m.i < w.counts.length
def Lc (w:Wor) (m:uw) (v:u3) (g:Gr) (e:En):Prop:=(m.op.kind=1∧ft w m v g e)∨(m.op.kind=2∧Eu w m v g e)∨(m.op.kind=3∧Ew w m v g e)∨(m.op.kind=4∧m.pc=0)∨(m.op.kind=5∧CT w m v g e)∨(m.op.kind=6∧BA w m v g e)
def iv (m:uw):Prop:=1<=m.answer.kind∧m.answer.kind<=5∧(m.answer.kind=1->m.answer=AS m∧0<=m.listen)
abbrev Mf (m:uw):ef:=⟨6,m.version,m.zi,m.end_,m.slot,m.listen,0,⟨0,0,0,0,0,0⟩⟩
def HF (m:uw):Prop:=m.answer=Mf m∧m.pc=4∨m.answer=iA 7∧m.pc=9
def o5 (m:uw):Prop:=7<=m.answer.kind∧m.answer.kind<=13
def Et (m:uw):Prop:=(m.op.kind=1∧iv m)∨(m.op.kind=2∧HF m)∨(3<=m.op.kind∧m.op.kind<=6∧o5 m)
structure Nc (N K:Nat) (w:Wor) (m:uw) (L:Wor->uw->u3->Gr->En->Prop) (F:uw->Prop) (r:Wor × uw × uz):Prop where
 ev:r.2.2.access≠0
 st:St (N+1) (K+1) r.1
 tg:Tg (N+1) r.1
 tm:eU r.2.1
 op:r.2.1.op=m.op
 th:r.2.1.zf=m.zf
 keep:jT w r.1 (jY m)
 mv:Mv w r.1 (jY m) (jY r.2.1)
 go:(r.2.1.done=true∧F r.2.1)∨∃ v g e,qF r.1 r.2.1 v g e∧L r.1 r.2.1 v g e
def AT {N:Nat} {w:Wor} {m:uw} {v:u3} {g:Gr} {e e':En} {tk:Int} (h:Tg N w) (hat:fc w m v g e) (h':oA N e'):Tg N (iR w m v g e' tk):=fun v2 hv g2 hg e2 he=>by
 have mv:=dO hat.at_;have mg:=dO hat.ey;rcases mem_set hv with hv | rfl
 ·exact h v2 hv g2 hg e2 he
 ·rcases mem_set hg with hg | rfl
  ·exact h v mv g2 hg e2 he
  ·rcases mem_set he with he | rfl
   ·exact h v mv g mg e2 he
   ·exact h'
def Bc {N:Nat} {w:Wor} {m:uw} {v:u3} {g:Gr} {e:En} (h:Tg N w) (hat:fc w m v g e):oA N e:=h v (dO hat.at_) g (dO hat.ey) e (dO hat.eL)
section
variable {N K:Nat} {w:Wor} {m:uw} {v:u3} {g:Gr} {e:En}
def UJ (st:St N K w) (tg:Tg N w) (su:qF w m v g e) (tm:eU m) (lo:ft w m v g e) (hk:m.op.kind=1) (h3:m.pc < 3):∃ r,qf w m v g e=some r∧Nc N K w m ft iv r:=by
 have gw:=st.jq;have ge:=qa.1 gw.ground;have hep:=ge.zn;have st1:St (N+1) (K+1) w:=st.mono aw aw;have tg1:=tg.mono (pC N);have lp:=lo.pc;unfold qf;rw [dQ h3];unfold o3;rcases (by omega:m.pc=0∨m.pc=1∨m.pc=2) with p | p | p
 ·rw [dQ p];exact zM rfl ⟨uW,st1,tg1,uO,rfl,rfl,jT.refl w _,qi w (kf (eI su.done hk uM) (eI su.done hk uM)),.inr ⟨v,g,e,uQ,⟨uL,fun _=>⟨hep.1,gk _⟩,uK,uK,uK,uK,uK,uK,uK,uK⟩⟩⟩
 ·have he:=lo.ep (.inl p);have hw:IntKind.i64.wrap (m.zn+1)=m.zn+1:=q9 aw aw;rw [dN aw,dQ p,hw];have sp:=st1.lu m.zf.toNat (p:=m.zn+1) aw aw
  exact zM rfl ⟨tI,sp,tg1,uO,rfl,rfl,xY (gk _) aj rfl rfl rfl rfl,AB rfl rfl rfl rfl rfl (kf (eI su.done hk uM) (eI su.done hk uM)),.inr ⟨v,g,e,⟨qh.2 sp.jq,aq su.zf,su.done,su.version,su.eQ,su.zi,su.ey,su.end_,su.eL,su.other,su.slot,su.listen,su.i,su.k⟩,
   ⟨uL,fun _=>he,uK,uK,uK,uK,uK,uK,uK,uK⟩⟩⟩
 ·rw [dN aw,dN aw,dQ p];by_cases q:w.zn=m.zn
  ·rw [dQ q];exact zM rfl ⟨uW,st1,tg1,uO,rfl,rfl,jT.refl w _,qi w (kf (eI su.done hk uM) (eI su.done hk uM)),.inr ⟨v,g,e,uQ,⟨uL,uK,uK,uK,uK,uK,uK,uK,uK,uK⟩⟩⟩
  ·rw [dN q];exact zM rfl ⟨uW,st1,tg1,uO,rfl,rfl,jT.refl w _,qi w (kf (eI su.done hk uM) (eI su.done hk uM)),.inr ⟨v,g,e,uQ,⟨uL,fun _=>⟨hep.1,gk _⟩,uK,uK,uK,uK,uK,uK,uK,uK⟩⟩⟩
def VO (st:St N K w) (tg:Tg N w) (su:qF w m v g e) (tm:eU m) (lo:ft w m v g e) (hk:m.op.kind=1) (hN:N<=100000000) (p:m.pc=3):∃ r,qf w m v g e=some r∧Nc N K w m ft iv r:=by
 have gw:=st.jq;have st1:St (N+1) (K+1) w:=st.mono aw aw;have tg1:=tg.mono (pC N);have pr:=ER w.zd m.op.listen;have hl:=st.ty.ec;have cu:=gw.current;obtain ⟨v',hv'⟩:∃ v',w.ze[w.current.toNat]?= some v':=⟨_,dM aw⟩;have gv:=(gw.eJ _ v' hv').1;have h0:0 < v'.zm.length:=aE
 obtain ⟨g',e',hg,he,l1,l2⟩:=vW gv h0;unfold qf;rw [dN aw,dQ p];by_cases q:zS w.zd m.op.listen < 0
 ·rw [dQ q];refine zM rfl ⟨uW,st1,tg1,⟨aJ,tm.word,tm.link,tm.host,tm.path,tm.d0,tm.d1,tm.cfg,(fun h=>absurd ((show m.op.kind=6 from h).symm.trans hk) ar)⟩,rfl,rfl,jT.refl w _,qi w (kf (eI su.done hk uM) (eI su.done hk ?_)),.inr ⟨v',g',e',⟨su.world,su.zf,su.done,cu,hv',⟨gk _,aK⟩,hg,⟨gk _,aK⟩,he,⟨gk _,aK⟩,⟨gk _,aK⟩,pr,su.i,su.k⟩,⟨uL,uK,uK,uK,uK,uK,uK,uK,fun _=>⟨by show (1:Int)<=2;decide,by show (2:Int)<=5;decide,fun h=>absurd (show (2:Int)=1 from h) ar⟩,uK⟩⟩⟩;dsimp only;(repeat' split) <;> omega
 ·rw [dN q]
  exact zM rfl ⟨uW,st1,tg1,⟨aJ,tm.word,tm.link,tm.host,tm.path,tm.d0,tm.d1,tm.cfg,tm.iF⟩,rfl,rfl,jT.refl w _,qi w (kf (eI su.done hk uM) (eI su.done hk uM)),.inr ⟨v',g',e',⟨su.world,su.zf,su.done,cu,hv',⟨gk _,aK⟩,hg,⟨gk _,aK⟩,he,⟨gk _,aK⟩,⟨gk _,aK⟩,pr,su.i,su.k⟩,
   ⟨uL,uK,fun _=>by show 0<=zS w.zd m.op.listen;omega,fun _=>⟨rfl,rfl,rfl⟩,fun _=>rfl,uK,uK,uK,uK,uK⟩⟩⟩
def VP (st:St N K w) (tg:Tg N w) (su:qF w m v g e) (tm:eU m) (lo:ft w m v g e) (hk:m.op.kind=1) (hK:K<=1099511627776) (p:m.pc=4):∃ r,qf w m v g e=some r∧Nc N K w m ft iv r:=by
 have gw:=st.jq;have tg1:=tg.mono (pC N);have l0:=lo.ec (.inl aw);have sl:=su.listen;obtain ⟨x,hx⟩:∃ x,w.zd[m.listen.toNat]?= some x:=⟨_,dM aw⟩;have li:=DD (gw.ec _ x hx).1;have ca:=st.fB.ec x (dO hx);have hw:IntKind.i64.wrap (x.zg+1)=x.zg+1:=q9 aw aw;have st2:=Gi st su hx (x.zg+1) aw aw hK;unfold qf iy;rw [dN aw,dN aw,dQ p,dN aw,hx,dX];unfold Mk;rw [hw]
 exact zM rfl ⟨tM,st2,tg1,uO,rfl,rfl,BV hx rfl id,mX (p:=0) (p':=1) (eI su.done hk uM) (eI su.done hk uM) (Tf l0 hx li.2.1 rfl _ _ _ _ _ _ _ _ _),.inr ⟨v,g,e,⟨qh.2 st2.jq,su.zf,su.done,su.version,su.eQ,su.zi,su.ey,su.end_,su.eL,su.other,su.slot,aq su.listen,su.i,su.k⟩,
  ⟨uL,uK,fun _=>l0,fun _=>lo.early aw,fun _=>lo.oE aw,uK,uK,uK,uK,uK⟩⟩⟩
def VQ (st:St N K w) (tg:Tg N w) (su:qF w m v g e) (tm:eU m) (lo:ft w m v g e) (hk:m.op.kind=1) (p:m.pc=5):∃ r,qf w m v g e=some r∧Nc N K w m ft iv r:=by
 have gw:=st.jq;have st1:St (N+1) (K+1) w:=st.mono aw aw;have tg1:=tg.mono (pC N);have l0:=lo.ec (.inl aw);have sl:=su.listen;obtain ⟨x,hx⟩:∃ x,w.zd[m.listen.toNat]?= some x:=⟨_,dM aw⟩;obtain ⟨z1,z2,z3⟩:=lo.early aw;have z4:=lo.oE aw;have gv:=(gw.eJ _ v su.eQ).1;unfold qf iy;rw [dN aw,dN aw,dN aw,dQ p,dN aw,hx,dX];cases hd:x.drain
 ·simp only [rU,if_false];obtain ⟨c0,c,hc⟩:=KH gv.snap m.op.listen m.op.host m.op.path;by_cases f:(xr m v).2=0
  ·have glt:(xr m v).1.toNat < v.zm.length:=by have:=(dL.1 hc).1;have:=gv.len;show (nW v.snap m.op.listen m.op.host m.op.path).1.toNat < _;omega
   obtain ⟨g',e',hg,he,q1,q2⟩:=vW gv glt;have c0':0<=(xr m v).1:=c0;have su':∀ pc an,qF w { m with zi:=(xr m v).1,pc:=pc,answer:=an } v g' e':=fun pc an=>⟨su.world,su.zf,su.done,su.version,su.eQ,⟨c0',by show (xr m v).1 < _;omega⟩,hg,⟨by show 0<=m.end_;omega,by show m.end_ < _;omega⟩,by show g'.ends[m.end_.toNat]?= _;rw [z2];exact he,⟨by show 0<=m.other;omega,by show m.other < _;omega⟩,⟨aL,aM⟩,su.listen,su.i,su.k⟩
   by_cases d:(yJ c m.op.d0 m.op.d1).2.2=0
   ·have hn:(ux c).length≠0:=by
     intro hz;unfold yJ at d;rw [dQ hz] at d;cases d
    by_cases po:c.xH=1
    ·rw [JB f hc d po];exact zM rfl ⟨uW,st1,tg1,uO,rfl,rfl,jT.refl w _,qi w (wu (eI su.done hk uM) (eI su.done hk uM) rfl),.inr ⟨v,g',e',su' 6 m.answer,⟨uL,uK,fun _=>l0,uK,fun _=>z4,fun _=>⟨c,hc,hn⟩,uK,uK,uK,uK⟩⟩⟩
    ·rw [JC f hc d po];have gl:=(gv.nO _ g' c hg hc).1;have dv:yJ c m.op.d0 m.op.d1=(yg c m.op.d0,yg c m.op.d1,0):=by unfold yJ;rw [dN hn]
     have r0:=GA (n:=m.op.d0) hn;have r1:=GA (n:=m.op.d1) hn;have d1:(yJ c m.op.d0 m.op.d1).1=yg c m.op.d0:=by rw [dv]
     have d2:(yJ c m.op.d0 m.op.d1).2.1=yg c m.op.d1:=by rw [dv]
     rw [d1,d2];have r0':0<=yg c m.op.d0∧yg c m.op.d0 < c.zL.length:=r0;have r1':0<=yg c m.op.d1∧yg c m.op.d1 < c.zL.length:=r1;obtain ⟨e2,he2⟩:∃ e2,g'.ends[(yg c m.op.d0).toNat]?= some e2:=⟨_,dM aw⟩;have n2:=((gv.fO.2 g' (dO hg)).2.2 e2 (dO he2)).2
     exact zM rfl ⟨uW,st1,tg1,uO,rfl,rfl,jT.refl w _,qi w (wu (eI su.done hk uM) (eI su.done hk uM) rfl),.inr ⟨v,g',e2,⟨su.world,su.zf,su.done,su.version,su.eQ,⟨c0',by show (xr m v).1 < _;omega⟩,hg,⟨r0'.1,by show yg c m.op.d0 < _;omega⟩,he2,⟨r1'.1,by show yg c m.op.d1 < _;omega⟩,⟨aL,aM⟩,su.listen,su.i,su.k⟩,
      ⟨uL,uK,fun _=>l0,uK,fun _=>z4,uK,uK,uK,uK,uK⟩⟩⟩
   ·rw [I5 f hc d];exact zM rfl ⟨uW,st1,tg1,uP,rfl,rfl,jT.refl w _,qi w (wu (eI su.done hk uM) (eI su.done hk uM) rfl),.inr ⟨v,g',e',su' 20 (iA 3),⟨uL,uK,uK,uK,uK,uK,uK,uK,fun _=>⟨by show (1:Int)<=3;decide,by show (3:Int)<=5;decide,fun h=>absurd (show (3:Int)=1 from h) ar⟩,uK⟩⟩⟩
  ·rw [JZ f];exact zM rfl ⟨uW,st1,tg1,uP,rfl,rfl,jT.refl w _,qi w (wu (eI su.done hk uM) (eI su.done hk uM) rfl),.inr ⟨v,g,e,uQ,⟨uL,uK,uK,uK,uK,uK,uK,uK,fun _=>⟨by show (1:Int)<=2;decide,by show (2:Int)<=5;decide,fun h=>absurd (show (2:Int)=1 from h) ar⟩,uK⟩⟩⟩
 ·simp only [if_true];exact zM rfl ⟨uW,st1,tg1,uP,rfl,rfl,jT.refl w _,qi w (wu (eI su.done hk uM) (eI su.done hk uM) rfl),.inr ⟨v,g,e,uQ,⟨uL,uK,uK,uK,uK,uK,uK,uK,fun _=>⟨by show (1:Int)<=5;decide,by show (5:Int)<=5;decide,fun h=>absurd (show (5:Int)=1 from h) ar⟩,uK⟩⟩⟩
def VR (st:St N K w) (tg:Tg N w) (su:qF w m v g e) (tm:eU m) (lo:ft w m v g e) (hk:m.op.kind=1) (p:m.pc=6):∃ r,qf w m v g e=some r∧Nc N K w m ft iv r:=by
 have gw:=st.jq;have tg1:=tg.mono (pC N);obtain ⟨f1,f2,f3,f4,f5,f6,f7⟩:=vy st su;have gv:=(gw.eJ _ v su.eQ).1;obtain ⟨c,hc,hn⟩:=lo.draw p;have l0:=lo.ec (.inl aw);have z:=lo.oE aw;have gl:=(gv.nO _ g c su.ey hc).1;have tr:=GA (n:=g.zt) hn;have tv:(lS c g.zt).1=((ux c)[(g.zt % (ux c).length).toNat]?).getD 0:=by unfold lS;rw [dN hn]
 rw [<- tv] at tr;obtain ⟨e2,he2⟩:∃ e2,g.ends[(lS c g.zt).1.toNat]?= some e2:=⟨_,dM aw⟩;have n2:=((gv.fO.2 g (dO su.ey)).2.2 e2 (dO he2)).2;have st2:=(st.mono aw aw:St (N+1) (K+1) w).iM su.at_ (e':=qt e e.head e.zg) (tk:=IntKind.u64.wrap (g.zt+1)) f1 rfl f6 (UE _) aN;have eset:g.ends.set m.end_.toNat (qt e e.head e.zg)=g.ends:=yD _ _ su.eL;have s1:=(dL.1 su.eQ).1;have s2:=(dL.1 su.ey).1;have so:=su.other;unfold qf;rw [dN aw,dN aw,dN aw,dN aw,dQ p,hc,dX]
 exact zM rfl ⟨tM,st2,AT tg1 su.at_ (e':=qt e e.head e.zg) (Bc tg1 su.at_),uO,rfl,rfl,kS su.at_ (e':=qt e e.head e.zg) (An.refl e _),Le su.at_ (e':=qt e e.head e.zg) rfl rfl rfl (wu (eI su.done hk uM) (eI su.done hk uM) rfl),.inr ⟨_,_,e2,⟨qh.2 st2.jq,su.zf,su.done,aq su.version,dS s1,aq su.zi,dS s2,⟨tr.1,by show _ < (((g.ends.set m.end_.toNat (qt e e.head e.zg)).length:Nat):Int);rw [eset];show (lS c g.zt).1 < _;omega⟩,by show (g.ends.set m.end_.toNat (qt e e.head e.zg))[(lS c g.zt).1.toNat]?= some e2;rw [eset];exact he2,aq so,⟨aL,aM⟩,su.listen,su.i,su.k⟩,
  ⟨uL,uK,fun _=>l0,uK,uK,uK,uK,uK,uK,uK⟩⟩⟩
def Vr (st:St N K w) (tg:Tg N w) (su:qF w m v g e) (tm:eU m) (lo:ft w m v g e) (hk:m.op.kind=1) (p:m.pc=7):∃ r,qf w m v g e=some r∧Nc N K w m ft iv r:=by
 obtain ⟨f1,f2,f3,f4,f5,f6,f7⟩:=vy st su;have l0:=lo.ec (.inl aw);unfold qf;rw [dN aw,dN aw,dN aw,dN aw,dN aw,dQ p]
 exact zM rfl ⟨uW,st.mono aw aw,tg.mono (pC N),uO,rfl,rfl,jT.refl w _,qi w (wu (eI su.done hk uM) (eI su.done hk uM) rfl),.inr ⟨v,g,e,⟨su.world,su.zf,su.done,su.version,su.eQ,su.zi,su.ey,su.end_,su.eL,su.other,su.slot,su.listen,f4,su.k⟩,
  ⟨uL,uK,fun _=>l0,uK,fun _=>lo.oE aw,uK,uK,uK,uK,uK⟩⟩⟩
def Vs (st:St N K w) (tg:Tg N w) (su:qF w m v g e) (tm:eU m) (lo:ft w m v g e) (hk:m.op.kind=1) (p:m.pc=8):∃ r,qf w m v g e=some r∧Nc N K w m ft iv r:=by
 have gv:=(st.jq.eJ _ v su.eQ).1;have tg1:=tg.mono (pC N);have l0:=lo.ec (.inl aw);have z:=lo.oE aw;have so:=su.other;obtain ⟨e2,he2⟩:∃ e2,g.ends[m.other.toNat]?= some e2:=⟨_,dM aw⟩;have n2:=((gv.fO.2 g (dO su.ey)).2.2 e2 (dO he2)).2;unfold qf;rw [dN aw,dN aw,dN aw,dN aw,dN aw,dN aw,dQ p,he2,dX];by_cases q:e2.zg < m.i
 ·rw [dQ q]
  exact zM rfl ⟨uW,st.mono aw aw,tg1,uO,rfl,rfl,jT.refl w _,qi w (wu (eI su.done hk uM) (eI su.done hk uM) rfl),.inr ⟨v,g,e2,⟨su.world,su.zf,su.done,su.version,su.eQ,su.zi,su.ey,so,he2,so,⟨aL,aM⟩,su.listen,su.i,su.k⟩,
   ⟨uL,uK,fun _=>l0,uK,uK,uK,uK,uK,uK,uK⟩⟩⟩
 ·rw [dN q]
  exact zM rfl ⟨uW,st.mono aw aw,tg1,uO,rfl,rfl,jT.refl w _,qi w (wu (eI su.done hk uM) (eI su.done hk uM) rfl),.inr ⟨v,g,e,uQ,
   ⟨uL,uK,fun _=>l0,uK,uK,uK,uK,uK,uK,uK⟩⟩⟩
def Vt (st:St N K w) (tg:Tg N w) (su:qF w m v g e) (tm:eU m) (lo:ft w m v g e) (hk:m.op.kind=1) (p:m.pc=9):∃ r,qf w m v g e=some r∧Nc N K w m ft iv r:=by
 obtain ⟨f1,f2,f3,f4,f5,f6,f7⟩:=vy st su;have tg1:=tg.mono (pC N);have l0:=lo.ec (.inl aw);unfold qf;rw [dN aw,dN aw,dN aw,dN aw,dN aw,dN aw,dN aw,dQ p];by_cases q:0<=zC e.head∧zC e.head < e.next.length
 ·rw [dQ q]
  exact zM rfl ⟨uW,st.mono aw aw,tg1,⟨tm.listen,f6.1,tm.link,tm.host,tm.path,tm.d0,tm.d1,tm.cfg,tm.iF⟩,rfl,rfl,jT.refl w _,qi w (wu (eI su.done hk uM) (eI su.done hk uM) rfl),.inr ⟨v,g,e,⟨su.world,su.zf,su.done,su.version,su.eQ,su.zi,su.ey,su.end_,su.eL,su.other,q,su.listen,su.i,su.k⟩,
   ⟨uL,uK,fun _=>l0,uK,uK,uK,fun _=>⟨rfl,gk _⟩,uK,uK,uK⟩⟩⟩
 ·rw [dN q];exact zM rfl ⟨uW,st.mono aw aw,tg1,⟨tm.listen,f6.1,tm.link,tm.host,tm.path,tm.d0,tm.d1,tm.cfg,(fun h=>absurd ((show m.op.kind=6 from h).symm.trans hk) ar)⟩,rfl,rfl,jT.refl w _,qi w (wu (eI su.done hk uM) (eI su.done hk uM) rfl),.inr ⟨v,g,e,uQ,⟨uL,uK,uK,uK,uK,uK,uK,uK,fun _=>⟨by show (1:Int)<=4;decide,by show (4:Int)<=5;decide,fun h=>absurd (show (4:Int)=1 from h) ar⟩,uK⟩⟩⟩
def Vb (f1:Slp.eu e=true) {s:Int} (h0:0<=s) (h1:s < e.next.length):∃ x,e.next[s.toNat]?= some x:=⟨_,dM aw⟩
def Vn (st:St N K w) (tg:Tg N w) (su:qF w m v g e) (tm:eU m) (lo:ft w m v g e) (hk:m.op.kind=1) (p:m.pc=10):∃ r,qf w m v g e=some r∧Nc N K w m ft iv r:=by
 obtain ⟨f1,f2,f3,f4,f5,f6,f7⟩:=vy st su;have tg1:=tg.mono (pC N);have l0:=lo.ec (.inl aw);obtain ⟨z1,z2⟩:=lo.slot (.inl p);have ss:=su.slot;obtain ⟨x,hx⟩:=Vb f1 ss.1 ss.2;have hb:=(Bc tg su.at_).2 x (dO hx);unfold qf;rw [dN aw,dN aw,dN aw,dN aw,dN aw,dN aw,dN aw,dN aw,dQ p,hx,dX]
 exact zM rfl ⟨uW,st.mono aw aw,tg1,⟨tm.listen,tm.word,by show -1<=x∧x<=2147483646;omega,tm.host,tm.path,tm.d0,tm.d1,tm.cfg,tm.iF⟩,rfl,rfl,jT.refl w _,qi w (wu (eI su.done hk uM) (eI su.done hk uM) rfl),.inr ⟨v,g,e,uQ,
  ⟨uL,uK,fun _=>l0,uK,uK,uK,fun _=>⟨z1,z2⟩,fun _ _=>hx,uK,uK⟩⟩⟩
def PU (f1:Slp.eu e=true) (f2:e.next.length<=4):Slp.zC e<=3:=by
 by_cases h:Slp.zC e < 0
 ·omega
 ·have:=(Slp.LC f1 h).2.1;omega
def K7 {x i:Int} {N:Nat} (h:x / 4294967296<=N) (hx:u64 x) (hN:N<=100000000) (h1: -1<=i) (h2:i<=2147483646):Slp.qV x i / 4294967296=x / 4294967296+1:=by
 have:=Slp.RR (x:=x) h1 h2;unfold u64 at hx;omega
def Vo (st:St N K w) (tg:Tg N w) (su:qF w m v g e) (tm:eU m) (lo:ft w m v g e) (hk:m.op.kind=1) (hN:N<=100000000) (p:m.pc=11):∃ r,qf w m v g e=some r∧Nc N K w m ft iv r:=by
 obtain ⟨f1,f2,f3,f4,f5,f6,f7⟩:=vy st su;have tg1:=tg.mono (pC N);have te:=Bc tg su.at_;have l0:=lo.ec (.inl aw);obtain ⟨z1,z2⟩:=lo.slot (.inr p);have ss:=su.slot;unfold qf;rw [dN aw,dN aw,dN aw,dN aw,dN aw,dN aw,dN aw,dN aw,dN aw,dQ p];by_cases q:e.head=m.word
 ·have z3:=lo.link p q;have hh:Slp.zC e=m.slot:=by rw [z1,<- q];rfl
  have hx2:Slp.fk e.next m.slot=m.link:=by unfold Slp.fk;rw [z3];rfl
  have ct:=(Slp.E6 (Slp.oI f1).1 aw).2.1;rw [hh,hx2] at ct;have hd:Slp.zC (qt e (Slp.qV m.word m.link) e.zg)=m.link:=Slp.EX tm.link.1 tm.link.2
  have is2:Slp.eu (qt e (Slp.qV m.word m.link) e.zg)=true:=by
   unfold Slp.eu;rw [hd];simp only [dU,gh];exact ⟨⟨⟨ct,f3⟩,f2⟩,f4⟩
  have nt:=K7 (i:=m.link) te.1 f6.1 hN tm.link.1 tm.link.2;rw [q] at nt;obtain ⟨q1,q2⟩:=Ta f6 f1 hh ss.1 hx2;rw [q] at q1 q2;have st2:=(st.mono aw aw:St (N+1) (K+1) w).iM su.at_ (e':=qt e (Slp.qV m.word m.link) e.zg) (tk:=g.zt) is2 rfl ⟨Slp.FA tm.link.1 tm.link.2,f6.2⟩ f7 aN;rw [dQ q];have ta:iL (qt e (Slp.qV m.word m.link) e.zg)=iL e+1:=by unfold iL;rw [q];exact nt
  exact zM rfl ⟨aO,st2,AT tg1 su.at_ (e':=qt e (Slp.qV m.word m.link) e.zg) ⟨by have:=te.1;omega,te.2⟩,uO,rfl,rfl,kS su.at_ (e':=qt e (Slp.qV m.word m.link) e.zg) ⟨rfl,aw,fun h=>by omega,fun _ _ _=>rfl⟩,
   mX (p:=1) (p':=2) (eI su.done hk uM) (eI su.done hk uM) (VD su.at_ (e':=qt e (Slp.qV m.word m.link) e.zg) rfl ss.1 ss.2 q1 q2 rfl m.listen),.inr ⟨_,_,_,wA (e':=qt e (Slp.qV m.word m.link) e.zg) (m':={ m with pc:=12 }) su rfl st2.jq rfl su.done rfl rfl rfl rfl rfl rfl rfl rfl,
   ⟨uL,uK,fun _=>l0,uK,uK,uK,uK,uK,uK,uK⟩⟩⟩
 ·rw [dN q]
  exact zM rfl ⟨aP,st.mono aw aw,tg1,uO,rfl,rfl,jT.refl w _,qi w (wu (eI su.done hk uM) (eI su.done hk uM) rfl),.inr ⟨v,g,e,uQ,
   ⟨uL,uK,fun _=>l0,uK,uK,uK,uK,uK,uK,uK⟩⟩⟩
def Vp (st:St N K w) (tg:Tg N w) (su:qF w m v g e) (tm:eU m) (lo:ft w m v g e) (hk:m.op.kind=1) (hK:K<=1099511627776) (p:m.pc=12):∃ r,qf w m v g e=some r∧Nc N K w m ft iv r:=by
 obtain ⟨f1,f2,f3,f4,f5,f6,f7⟩:=vy st su;have tg1:=tg.mono (pC N);have l0:=lo.ec (.inl aw);have hw:IntKind.i64.wrap (e.zg+1)=e.zg+1:=q9 aw aw;have st2:=(st.mono aw aw:St (N+1) (K+1) w).iM su.at_ (e':=qt e e.head (e.zg+1)) (tk:=g.zt) (LD f1 _ aw) rfl ⟨f6.1,f6.2.1,by show i64 (e.zg+1);unfold i64;omega⟩ f7 (by show e.zg+1<=_;omega);unfold qf;rw [dN aw,dN aw,dN aw,dN aw,dN aw,dN aw,dN aw,dN aw,dN aw,dN aw,dQ p,hw]
 exact zM rfl ⟨tM,st2,AT tg1 su.at_ (e':=qt e e.head (e.zg+1)) (show oA (N+1) e from Bc tg1 su.at_),uP,rfl,rfl,kS su.at_ (e':=qt e e.head (e.zg+1)) ⟨rfl,gk _,fun _=>rfl,fun _ _ _=>rfl⟩,
  mX (p:=2) (p':=3) (eI su.done hk uM) (eI su.done hk uM) (U8 su.at_ (e':=qt e e.head (e.zg+1)) rfl rfl f4 rfl m.slot m.listen),.inr ⟨_,_,_,wA (e':=qt e e.head (e.zg+1)) (m':={ m with answer:=AS m,pc:=20 }) su rfl st2.jq rfl su.done rfl rfl rfl rfl rfl rfl rfl rfl,
  ⟨uL,uK,uK,uK,uK,uK,uK,uK,fun _=>⟨by show (1:Int)<=1;decide,by show (1:Int)<=5;decide,fun _=>⟨rfl,l0⟩⟩,uK⟩⟩⟩
def Vq (st:St N K w) (tg:Tg N w) (su:qF w m v g e) (tm:eU m) (lo:ft w m v g e) (hk:m.op.kind=1) (p:m.pc=20):∃ r,qf w m v g e=some r∧Nc N K w m ft iv r:=by
 have kr:=QL m.answer.kind;obtain ⟨r2,hl,hc⟩:=Jv st su (pc:=21) kr.1 kr.2;have st2:=(st.mono aw aw:St (N+1) (K+1) w).count m.zf.toNat hl;have an:=lo.iF aw
 have ow:jY m=jY { m with pc:=21 }:=by
  by_cases k1:m.answer.kind=1
  ·exact Bg (p:=3) (eI su.done hk uM) (eI su.done hk uM) rfl rfl rfl rfl rfl
  ·by_cases k2:0<=m.listen
   ·exact wu (eI su.done hk uM) (eI su.done hk uM) rfl
   ·exact kf (eI su.done hk uM) (eI su.done hk uM)
 unfold qf;rw [dN aw,dN aw,dN aw,dN aw,dN aw,dN aw,dN aw,dN aw,dN aw,dN aw,dN aw,dQ p,hc]
 exact zM rfl ⟨tM,st2,tg.mono (pC N),uO,rfl,rfl,xY (gk _) rfl aj rfl rfl rfl,AB rfl rfl rfl rfl rfl ow,.inr ⟨v,g,e,⟨qh.2 st2.jq,su.zf,su.done,su.version,su.eQ,su.zi,su.ey,su.end_,su.eL,su.other,su.slot,su.listen,su.i,su.k⟩,
  ⟨uL,uK,uK,uK,uK,uK,uK,uK,fun _=>an,uK⟩⟩⟩
def UG (st:St N K w) (tg:Tg N w) (su:qF w m v g e) (tm:eU m) (lo:ft w m v g e) (hk:m.op.kind=1) (p:m.pc=21):∃ r,qf w m v g e=some r∧Nc N K w m ft iv r:=by
 obtain ⟨r2,hl,hc⟩:=Jv st su (k:=0) (pc:=if m.answer.kind=1∨m.listen < 0 then 23 else 22) ar ar;have st2:=(st.mono aw aw:St (N+1) (K+1) w).count m.zf.toNat hl;have an:=lo.iF aw;unfold qf;rw [dN aw,dN aw,dN aw,dN aw,dN aw,dN aw,dN aw,dN aw,dN aw,dN aw,dN aw,dN aw,dQ p,hc];by_cases q:m.answer.kind=1∨m.listen < 0
 ·rw [dQ q]
  have ow:jY m=jY { m with pc:=23 }:=by
   by_cases k1:m.answer.kind=1
   ·exact Bg (p:=3) (eI su.done hk uM) (eI su.done hk uM) rfl rfl rfl rfl rfl
   ·exact kf (eI su.done hk uM) (eI su.done hk uM)
  exact zM rfl ⟨tM,st2,tg.mono (pC N),uO,rfl,rfl,xY (gk _) rfl aj rfl rfl rfl,AB rfl rfl rfl rfl rfl ow,.inr ⟨v,g,e,⟨qh.2 st2.jq,su.zf,su.done,su.version,su.eQ,su.zi,su.ey,su.end_,su.eL,su.other,su.slot,su.listen,su.i,su.k⟩,
   ⟨uL,uK,uK,uK,uK,uK,uK,uK,fun _=>an,uK⟩⟩⟩
 ·rw [dN q]
  exact zM rfl ⟨tM,st2,tg.mono (pC N),uO,rfl,rfl,xY (gk _) rfl aj rfl rfl rfl,AB rfl rfl rfl rfl rfl (wu (eI su.done hk uM) (eI su.done hk uM) rfl),.inr ⟨v,g,e,⟨qh.2 st2.jq,su.zf,su.done,su.version,su.eQ,su.zi,su.ey,su.end_,su.eL,su.other,su.slot,su.listen,su.i,su.k⟩,
   ⟨uL,uK,fun _=>by show 0<=m.listen;omega,uK,uK,uK,uK,uK,fun _=>an,fun _ h=>q (.inl h)⟩⟩⟩
def B6 (ow:∀ x,jY m x<=Has w x) {p:Nat} (h:ph m=p) (x:Key) (hx:1<=qe p m.version m.zi m.end_ m.slot m.listen x):1<=Has w x:=by
 have:=ow x;rw [jt h] at this;omega
def KK (ow:∀ x,jY m x<=Has w x) {p:Nat} (h:ph m=p) (hp:1<=p∧p<=4):0<=m.listen∧∃ x,w.zd[m.listen.toNat]?= some x∧1<=x.zg:=by
 have:=B6 ow h (.ec m.listen) (by simp [qe,hp]);simp only [Has] at this;split at this
 ·rename_i q;split at this
  ·rename_i x hx;exact ⟨q,x,hx,aw⟩
  ·omega
 ·omega
def UH (st:St N K w) (tg:Tg N w) (su:qF w m v g e) (tm:eU m) (lo:ft w m v g e) (hk:m.op.kind=1) (hK:K<=1099511627776) (ow:∀ x,jY m x<=Has w x) (p:m.pc=22):∃ r,qf w m v g e=some r∧Nc N K w m ft iv r:=by
 have l0:=lo.ec (.inr p);have k1:=lo.kind p;have p1:ph m=1:=(eI su.done hk uM);obtain ⟨_,x,hx,x1⟩:=KK ow p1 ar;have ca:=st.fB.ec x (dO hx);have hw:IntKind.i64.wrap (x.zg - 1)=x.zg - 1:=q9 aw aw;have st2:=Gi st su hx (x.zg - 1) aw aw hK;have an:=lo.iF aw;unfold qf iy;rw [dN aw,dN aw,dN aw,dN aw,dN aw,dN aw,dN aw,dN aw,dN aw,dN aw,dN aw,dN aw,dN aw,dQ p,dN aw,hx,dX];unfold oS;rw [hw]
 exact zM rfl ⟨tM,st2,tg.mono (pC N),uO,rfl,rfl,BV hx rfl id,mX (p:=1) (p':=0) p1 (eI su.done hk uM) (K5 l0 hx x1 rfl _ _ _ _ _ _ _ _ _),.inr ⟨v,g,e,⟨qh.2 st2.jq,su.zf,su.done,su.version,su.eQ,su.zi,su.ey,su.end_,su.eL,su.other,su.slot,aq su.listen,su.i,su.k⟩,
  ⟨uL,uK,uK,uK,uK,uK,uK,uK,fun _=>an,uK⟩⟩⟩
def UI (st:St N K w) (tg:Tg N w) (su:qF w m v g e) (tm:eU m) (lo:ft w m v g e) (hk:m.op.kind=1) (p:m.pc=23):∃ r,qf w m v g e=some r∧Nc N K w m ft iv r:=by
 have ep:=(qa.1 st.jq.ground).zn;have st2:=(st.mono aw aw:St (N+1) (K+1) w).lu m.zf.toNat (p:=0) aw aw;have an:=lo.iF aw
 have ow:jY m=jY { m with done:=true }:=by
  by_cases k1:m.answer.kind=1
  ·exact Bg (p:=3) (eI su.done hk uM) (JV rfl hk k1) rfl rfl rfl rfl rfl
  ·exact kf (eI su.done hk uM) (yG rfl (fun h=>k1 h.2))
 unfold qf;rw [dN aw,dN aw,dN aw,dN aw,dN aw,dN aw,dN aw,dN aw,dN aw,dN aw,dN aw,dN aw,dN aw,dN aw,dQ p];exact zM rfl ⟨tI,st2,tg.mono (pC N),uP,rfl,rfl,xY (gk _) aj rfl rfl rfl rfl,AB rfl rfl rfl rfl rfl ow,.inl ⟨rfl,an⟩⟩
def Qp (st:St N K w) (tg:Tg N w) (su:qF w m v g e) (tm:eU m) (lo:ft w m v g e) (hk:m.op.kind=1) (hN:N<=100000000) (hK:K<=1099511627776) (ow:∀ x,jY m x<=Has w x):∃ r,qf w m v g e=some r∧Nc N K w m ft iv r:=by
 have pc:=lo.pc;by_cases h3:m.pc < 3
 ·exact UJ st tg su tm lo hk h3
 rcases (by omega:m.pc=3∨m.pc=4∨m.pc=5∨m.pc=6∨m.pc=7∨m.pc=8∨m.pc=9∨m.pc=10∨m.pc=11∨m.pc=12∨m.pc=20∨m.pc=21∨m.pc=22∨m.pc=23) with p | p | p | p | p | p | p | p | p | p | p | p | p | p
 ·exact VO st tg su tm lo hk hN p
 ·exact VP st tg su tm lo hk hK p
 ·exact VQ st tg su tm lo hk p
 ·exact VR st tg su tm lo hk p
 ·exact Vr st tg su tm lo hk p
 ·exact Vs st tg su tm lo hk p
 ·exact Vt st tg su tm lo hk p
 ·exact Vn st tg su tm lo hk p
 ·exact Vo st tg su tm lo hk hN p
 ·exact Vp st tg su tm lo hk hK p
 ·exact Vq st tg su tm lo hk p
 ·exact UG st tg su tm lo hk p
 ·exact UH st tg su tm lo hk hK ow p
 ·exact UI st tg su tm lo hk p
end
end Go.Wor
