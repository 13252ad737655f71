import Derived.Test.YtoeaoedlpmohoaaGreatT1
set_option linter.all false
set_option maxRecDepth 100000
set_option maxHeartbeats 4000000
namespace Go.Wor
open Go.Ab Go.Proofs Tryz Go.Hy Go.Gat Go.Nam Go.Hos Go.Con Go.Sna
inductive Key
 |slot (i j k s:Int)
 |act (i j k:Int)
 |fC (i:Int)
 |fM (i:Int)
 |lock
def ph(m:fi):Nat:=
 if m.done=true then (if m.op.kind=1/\m.answer.kind=1 then 3 else 0)
 else if m.op.kind=1 then (if 5<=m.pc/\m.pc<=11 then 1 else if m.pc=12 then 2 else if 20<=m.pc then (if m.answer.kind=1 then 3 else if m.pc<=22/\0<=m.listen then 1 else 0) else 0)
 else if m.op.kind=2 then (if m.pc<=2 then 3 else if m.pc=3 then 4 else if m.pc=4 then 1 else 0)
 else if m.op.kind=3 then (if 1<=m.pc then 5 else 0)
 else if m.op.kind=5 then (if 1<=m.pc then 6 else 0)
 else 0
def qg(p:Nat)(i j k s l:Int):Key->Nat
 |.slot i' j' k' s'=>if (p=2\/p=3)/\i=i'/\j=j'/\k=k'/\s=s' then 1 else 0
 |.act i' j' k'=>if (p=3\/p=4)/\i=i'/\j=j'/\k=k' then 1 else 0
 |.fC l'=>if (1<=p/\p<=4)/\l=l' then 1 else 0
 |.fM i'=>if p=5/\i=i' then 1 else 0
 |.lock=>if p=6 then 1 else 0
def j3(m:fi):Key->Nat:=qg (ph m) m.version m.zg m.end_ m.slot m.listen
def wA(a:fA):Key->Nat:=qg 3 a.version a.zg a.end_ a.slot a.listen
def jb{m:fi}{p:Nat}(h:ph m=p):j3 m=qg p m.version m.zg m.end_ m.slot m.listen:=by unfold j3;rw[h]
def wo(i j k s l:Int)(x:Key):qg 0 i j k s l x=0:=by cases x <;> simp[qg]
def zx0(i j k s l i' j' k' s':Int):qg 1 i j k s l=qg 1 i' j' k' s' l:=by funext x;cases x <;> simp[qg]
def zx1(i j k s l j' k' s' l':Int):qg 5 i j k s l=qg 5 i j' k' s' l':=by funext x;cases x <;> simp[qg]
def zx2(i j k s l i' j' k' s' l':Int):qg 6 i j k s l=qg 6 i' j' k' s' l':=by funext x;cases x <;> simp[qg]
def fO{m:fi}{n:Nat}(hd:m.done=false)(hk:m.op.kind=1)(h:(if 5<=m.pc/\m.pc<=11 then 1 else if m.pc=12 then 2 else if 20<=m.pc then (if m.answer.kind=1 then 3 else if m.pc<=22/\0<=m.listen then 1 else 0) else 0)=n):ph m=n:=by
 unfold ph;rw[dZ aI,gh hk];exact h
def iT{m:fi}{n:Nat}(hd:m.done=false)(hk:m.op.kind=2)(h:(if m.pc<=2 then 3 else if m.pc=3 then 4 else if m.pc=4 then 1 else 0)=n):ph m=n:=by
 unfold ph;rw[dZ aI,dZ aw,gh hk];exact h
def Az{m:fi}{n:Nat}(hd:m.done=false)(hk:m.op.kind=3)(h:(if 1<=m.pc then 5 else 0)=n):ph m=n:=by
 unfold ph;rw[dZ aI,dZ aw,dZ aw,gh hk];exact h
def iY{m:fi}{n:Nat}(hd:m.done=false)(hk:m.op.kind=5)(h:(if 1<=m.pc then 6 else 0)=n):ph m=n:=by
 unfold ph;rw[dZ aI,dZ aw,dZ aw,dZ aw,gh hk];exact h
def D3{m:fi}(hd:m.done=false)(h1:m.op.kind≠1)(h2:m.op.kind≠2)(h3:m.op.kind≠3)(h5:m.op.kind≠5):ph m=0:=by
 unfold ph;rw[dZ aI,dZ h1,dZ h2,dZ h3,dZ h5]
def yV{m:fi}(hd:m.done=true)(h:¬(m.op.kind=1/\m.answer.kind=1)):ph m=0:=by
 unfold ph;rw[gh hd,dZ h]
def Nd{m:fi}(hd:m.done=true)(hk:m.op.kind=1)(h:m.answer.kind=1):ph m=3:=by
 unfold ph;rw[gh hd,gh ⟨hk,h⟩]
def kR(w:Wor)(i j k:Int):Option En:=if 0<=i/\0<=j/\0<=k then kb w i j k else none
def iM(e:En)(s:Int):Nat:=if 0<=s/\s<e.next.length/\s∉(Slp.qh e).1 then 1 else 0
def Has(w:Wor):Key->Nat
 |.slot i j k s=>match kR w i j k with
  |some e=>iM e s
  |none=>0
 |.act i j k=>match kR w i j k with
  |some e=>e.zi.toNat
  |none=>0
 |.fC i=>if 0<=i then (match w.ze[i.toNat]? with
  |some l=>l.zi.toNat
  |none=>0) else 0
 |.fM i=>if 0<=i/\i<w.zd.length/\i≠w.current/\∀r∈w.zp,r.version≠i then 1 else 0
 |.lock=>w.lock.toNat
def Mv(w w':Wor)(a b:Key->Nat):Prop:=∀x,Has w' x+a x=Has w x+b x
def OW{w:Wor}{m:fi}{v:fp}{g:Gr}{e:En}(hat:ic w m v g e):kR w m.version m.zg m.end_=some e:=by
 unfold kR;rw[gh ⟨hat.v0,hat.g0,hat.e0⟩];exact Iy hat
def MR{w:Wor}{m:fi}{v:fp}{g:Gr}{e:En}(hat:ic w m v g e)(e':En)(tk i j k:Int):kR (mR w m v g e' tk) i j k=if i=m.version/\j=m.zg/\k=m.end_ then some e' else kR w i j k:=by
 have p1:=hat.v0;have p2:=hat.g0;have p3:=hat.e0;unfold kR;rw[HS hat];by_cases h:0<=i/\0<=j/\0<=k
 ·rw[gh h,gh h];by_cases q:i=m.version/\j=m.zg/\k=m.end_
  ·rw[gh q,gh (by rw[q.1,q.2.1,q.2.2];exact⟨rfl,rfl,rfl⟩)]
  ·rw[dZ q,dZ (λz=>q aw)]
 ·rw[dZ h,dZ h,dZ (λz=>h aw)]
def Md{w w':Wor}(h:w'.zd=w.zd)(i j k:Int):kR w' i j k=kR w i j k:=by unfold kR kb;rw[h]
def qq(w:Wor){a b:Key->Nat}(h:a=b):Mv w w a b:=λx=>by rw[h]
def CT{w w':Wor}{a b:Key->Nat}(h1:w'.zd=w.zd)(h2:w'.ze=w.ze)(h3:w'.zp=w.zp)(h4:w'.current=w.current)(h5:w'.lock=w.lock)(h:a=b):Mv w w' a b:=λx=>by
 rw[h];cases x with
 |slot i j k s=>simp only[Has,Md h1]
 |act i j k=>simp only[Has,Md h1]
 |fC i=>simp only[Has,h2]
 |fM i=>simp only[Has,h1,h3,h4]
 |lock=>simp only[Has,h5]
section
variable {w:Wor} {m:fi} {v:fp} {g:Gr} {e e':En} {tk:Int}
def Xz(hat:ic w m v g e)(e':En)(tk:Int)(x:Key):Has (mR w m v g e' tk) x=match x with
  |.slot i j k s=>if i=m.version/\j=m.zg/\k=m.end_ then iM e' s else Has w x
  |.act i j k=>if i=m.version/\j=m.zg/\k=m.end_ then e'.zi.toNat else Has w x
  |x=>Has w x:=by
 cases x with
 |slot i j k s=>
  simp only[Has,MR hat];by_cases q:i=m.version/\j=m.zg/\k=m.end_
  ·rw[gh q,gh q]
  ·rw[dZ q,dZ q]
 |act i j k=>
  simp only[Has,MR hat];by_cases q:i=m.version/\j=m.zg/\k=m.end_
  ·rw[gh q,gh q]
  ·rw[dZ q,dZ q]
 |fC i=>rfl
 |fM i=>simp only[Has,mR,pU]
 |lock=>rfl
def Iv(hat:ic w m v g e)(s:Int):Has w (.slot m.version m.zg m.end_ s)=iM e s:=by simp only[Has,OW hat]
def F4(hat:ic w m v g e):Has w (.act m.version m.zg m.end_)=e.zi.toNat:=by simp only[Has,OW hat]
def Ea(hat:ic w m v g e){a b:Key->Nat}(hs:∀s,iM e' s+a (.slot m.version m.zg m.end_ s)=iM e s+b (.slot m.version m.zg m.end_ s))(ha:e'.zi.toNat+a (.act m.version m.zg m.end_)=e.zi.toNat+b (.act m.version m.zg m.end_))
 (h:∀x,(∀s,x≠.slot m.version m.zg m.end_ s)->x≠.act m.version m.zg m.end_->a x=b x):Mv w (mR w m v g e' tk) a b:=λx=>by
 rw[Xz hat];cases x with
 |slot i j k s=>
  dsimp only;by_cases q:i=m.version/\j=m.zg/\k=m.end_
  ·rw[gh q];obtain⟨rfl,rfl,rfl⟩:=q;rw[Iv hat];exact hs s
  ·rw[dZ q,h (.slot i j k s) (λs' z=>q (by cases z;exact⟨rfl,rfl,rfl⟩)) (λz=>nomatch z)]
 |act i j k=>
  dsimp only;by_cases q:i=m.version/\j=m.zg/\k=m.end_
  ·rw[gh q];obtain⟨rfl,rfl,rfl⟩:=q;rw[F4 hat];exact ha
  ·rw[dZ q,h (.act i j k) (λs' z=>nomatch z) (λz=>q (by cases z;exact⟨rfl,rfl,rfl⟩))]
 |fC i=>dsimp only;rw[h (.fC i) (λs' z=>nomatch z) (λz=>nomatch z)]
 |fM i=>dsimp only;rw[h (.fM i) (λs' z=>nomatch z) (λz=>nomatch z)]
 |lock=>dsimp only;rw[h (.lock) (λs' z=>nomatch z) (λz=>nomatch z)]
def Oz(hat:ic w m v g e)(hl:e'.next.length=e.next.length)(hf:(Slp.qh e').1=(Slp.qh e).1)(ha:e'.zi=e.zi){a b:Key->Nat}(h:a=b):Mv w (mR w m v g e' tk) a b:=
 Ea hat (λs=>by rw[h];unfold iM;rw[hl,hf]) (by rw[h,ha]) λx _ _=>by rw[h]
def zxR(hat:ic w m v g e)(hl:e'.next.length=e.next.length){s:Int}(h0:0<=s)(h1:s<e.next.length)(hf:(Slp.qh e).1=s::(Slp.qh e').1)(hn:s∉(Slp.qh e').1)(ha:e'.zi=e.zi)(l:Int):Mv w (mR w m v g e' tk) (qg 1 m.version m.zg m.end_ s l) (qg 2 m.version m.zg m.end_ s l):=by
 refine Ea hat (λt=>?_) (by simp[qg,ha]) λx q1 q2=>?_
 ·unfold iM;rw[hl,hf];simp only[qg,rz,uy];by_cases q:s=t
  ·subst q;simp[h0,h1,hn]
  ·have q':¬t=s:=λz=>q z.symm
   simp[q,q']
 ·cases x with
  |slot i j k t=>
   simp only[qg];rw[dZ aj,dZ (λz=>q1 t (by rw[z.2.1,z.2.2.1,z.2.2.2.1]))]
  |act i j k=>simp[qg]
  |fC i=>simp[qg]
  |fM i=>simp[qg]
  |lock=>simp[qg]
def ZR(hat:ic w m v g e)(hl:e'.next.length=e.next.length){s:Int}(h0:0<=s)(h1:s<e.next.length)(hf:(Slp.qh e').1=s::(Slp.qh e).1)(hn:s∉(Slp.qh e).1)(ha:e'.zi=e.zi)(l:Int):Mv w (mR w m v g e' tk) (qg 3 m.version m.zg m.end_ s l) (qg 4 m.version m.zg m.end_ s l):=by
 refine Ea hat (λt=>?_) (by simp[qg,ha]) λx q1 q2=>?_
 ·unfold iM;rw[hl,hf];simp only[qg,rz,uy];by_cases q:s=t
  ·subst q;simp[h0,h1,hn]
  ·have q':¬t=s:=λz=>q z.symm
   simp[q,q']
 ·cases x with
  |slot i j k t=>
   simp only[qg];rw[dZ (λz=>q1 t (by rw[z.2.1,z.2.2.1,z.2.2.2.1])),dZ aj]
  |act i j k=>simp[qg]
  |fC i=>simp[qg]
  |fM i=>simp[qg]
  |lock=>simp[qg]
def ZQ(hat:ic w m v g e)(hl:e'.next.length=e.next.length)(hf:(Slp.qh e').1=(Slp.qh e).1)(h0:0<=e.zi)(ha:e'.zi=e.zi+1)(s l:Int):Mv w (mR w m v g e' tk) (qg 2 m.version m.zg m.end_ s l) (qg 3 m.version m.zg m.end_ s l):=by
 refine Ea hat (λt=>by unfold iM;rw[hl,hf];simp[qg]) (by simp[qg,ha];omega) λx q1 q2=>?_
 cases x with
 |slot i j k t=>simp[qg]
 |act i j k=>
  simp only[qg];rw[dZ aj,dZ (λz=>q2 (by rw[z.2.1,z.2.2.1,z.2.2.2]))]
 |fC i=>simp[qg]
 |fM i=>simp[qg]
 |lock=>simp[qg]
def ZO(hat:ic w m v g e)(hl:e'.next.length=e.next.length)(hf:(Slp.qh e').1=(Slp.qh e).1)(h0:1<=e.zi)(ha:e'.zi=e.zi-1)(s l:Int):Mv w (mR w m v g e' tk) (qg 4 m.version m.zg m.end_ s l) (qg 1 m.version m.zg m.end_ s l):=by
 refine Ea hat (λt=>by unfold iM;rw[hl,hf];simp[qg]) (by simp[qg,ha];omega) λx q1 q2=>?_
 cases x with
 |slot i j k t=>simp[qg]
 |act i j k=>
  simp only[qg];rw[dZ (λz=>q2 (by rw[z.2.1,z.2.2.1,z.2.2.2])),dZ aj]
 |fC i=>simp[qg]
 |fM i=>simp[qg]
 |lock=>simp[qg]
end
def JR{w:Wor}{i:Int}{x y:fI}(hi:0<=i)(hx:w.ze[i.toNat]?=some x){a b:Key->Nat}(h0:y.zi.toNat+a (.fC i)=x.zi.toNat+b (.fC i))(h:∀k,k≠.fC i->a k=b k):Mv w {w with ze:=w.ze.set i.toNat y} a b:=λk=>by
 cases k with
 |fC n=>
  by_cases q:n=i
  ·subst q;simp only[Has];rw[gh hi,gh hi,gk (dW.1 hx).1,hx];exact h0
  ·rw[h (.fC n) (λz=>q (by cases z;rfl))];simp only[Has];by_cases n0:0<=n
   ·rw[gh n0,gh n0,gW aw]
   ·rw[dZ n0,dZ n0]
 |slot a' b' c s=>rw[h (.slot a' b' c s) (λz=>nomatch z)];rfl
 |act a' b' c=>rw[h (.act a' b' c) (λz=>nomatch z)];rfl
 |fM n=>rw[h (.fM n) (λz=>nomatch z)];rfl
 |lock=>rw[h .lock (λz=>nomatch z)];rfl
def Ym{w:Wor}{i:Int}{x y:fI}(hi:0<=i)(hx:w.ze[i.toNat]?=some x)(h0:0<=x.zi)(hy:y.zi=x.zi+1)(a b c d a' b' c' d' l:Int):Mv w {w with ze:=w.ze.set i.toNat y} (qg 0 a b c d l) (qg 1 a' b' c' d' i):=by
 refine JR hi hx (by simp[qg];omega) λk q=>?_
 cases k with
 |fC n=>simp only[qg];rw[dZ aj,dZ (λz=>q (by rw[z.2]))]
 |slot a' b' c s=>simp[qg]
 |act a' b' c=>simp[qg]
 |fM n=>simp[qg]
 |lock=>simp[qg]
def NU{w:Wor}{i:Int}{x y:fI}(hi:0<=i)(hx:w.ze[i.toNat]?=some x)(h0:1<=x.zi)(hy:y.zi=x.zi-1)(a b c d a' b' c' d' l:Int):Mv w {w with ze:=w.ze.set i.toNat y} (qg 1 a b c d i) (qg 0 a' b' c' d' l):=by
 refine JR hi hx (by simp[qg];omega) λk q=>?_
 cases k with
 |fC n=>simp only[qg];rw[dZ (λz=>q (by rw[z.2])),dZ aj]
 |slot a' b' c s=>simp[qg]
 |act a' b' c=>simp[qg]
 |fM n=>simp[qg]
 |lock=>simp[qg]
def Mu{w:Wor}{i:Int}{x y:fI}(hi:0<=i)(hx:w.ze[i.toNat]?=some x)(hy:y.zi=x.zi){a b:Key->Nat}(h:a=b):Mv w {w with ze:=w.ze.set i.toNat y} a b:=
 JR hi hx (by rw[h,hy]) λ_ _=>by rw[h]
def k8{m m':fi}(h:ph m=0)(h':ph m'=0):j3 m=j3 m':=by
 funext x
 rw[jb h,jb h',wo,wo]
def mT{m m':fi}(h:ph m=1)(h':ph m'=1)(hl:m'.listen=m.listen):j3 m=j3 m':=by
 rw[jb h,jb h',hl];exact zx0 ..
def Dc{p:Nat}{m m':fi}(h:ph m=p)(h':ph m'=p)(h1:m'.version=m.version)(h2:m'.zg=m.zg)(h3:m'.end_=m.end_)(h4:m'.slot=m.slot)(h5:m'.listen=m.listen):j3 m=j3 m':=by
 rw[jb h,jb h',h1,h2,h3,h4,h5]
def zyS{m m':fi}(h:ph m=5)(h':ph m'=5)(hl:m'.version=m.version):j3 m=j3 m':=by
 rw[jb h,jb h',hl];exact zx1 ..
def k9{m m':fi}(h:ph m=6)(h':ph m'=6):j3 m=j3 m':=by
 rw[jb h,jb h'];exact zx2 ..
def Ad{w w':Wor}{m m':fi}{p p':Nat}(h:ph m=p)(h':ph m'=p')(x:Mv w w' (qg p m.version m.zg m.end_ m.slot m.listen) (qg p' m'.version m'.zg m'.end_ m'.slot m'.listen)):Mv w w' (j3 m) (j3 m'):=by
 rw[jb h,jb h'];exact x
def mF(e:En):Int:=e.head / 4294967296
def Bx(N:Nat)(e:En):Prop:=mF e<=N/\∀x∈e.next, -1<=x/\x<=3
def Tg(N:Nat)(w:Wor):Prop:=∀v∈w.zd,∀g∈v.zo,∀e∈g.ends,Bx N e
def Tg.mono{N N':Nat}{w:Wor}(h:Tg N w)(hN:N<=N'):Tg N' w:=λv hv g hg e he=>⟨by have:=(h v hv g hg e he).1;omega,(h v hv g hg e he).2⟩
structure Ck(e e':En)(o:Int->Nat):Prop where
 len:e'.next.length=e.next.length
 tag:mF e<=mF e'
 head:mF e'=mF e->e'.head=e.head
 next:∀s,0<=s->o s=0->e'.next[s.toNat]?=e.next[s.toNat]?
def Ck.refl(e:En)(o:Int->Nat):Ck e e o:=⟨rfl,gL _,λ_=>J,λ_ _ _=>J⟩
structure Dg(g g':Gr)(o:Nat->Int->Nat):Prop where
 len:g'.ends.length=g.ends.length
 ends : ∀(k : Nat) e e', g.ends[k]? = some e -> g'.ends[k]? = some e' -> Ck e e' (o k)
def Dg.refl(g:Gr)(o:Nat->Int->Nat):Dg g g o:=⟨rfl,λk e e' h h'=>by rw[h]at h';cases h';exact Ck.refl e _⟩
structure Bg(v v':fp)(o:Nat->Nat->Int->Nat):Prop where
 snap:v'.snap=v.snap
 len:v'.zo.length=v.zo.length
 Aw:∀(j:Nat) g g',v.zo[j]?=some g->v'.zo[j]?=some g'->Dg g g' (o j)
def Bg.refl(v:fp)(o:Nat->Nat->Int->Nat):Bg v v o:=⟨rfl,rfl,λj g g' h h'=>by rw[h]at h';cases h';exact Dg.refl g _⟩
structure xb(w w':Wor)(o:Key->Nat):Prop where
 zl:w.zl<=w'.zl
 pins:w'.pins.length=w.pins.length
 counts:w'.counts.length=w.counts.length
 iW:w.zd.length<=w'.zd.length
 fM:∀(i:Nat) v v',w.zd[i]?=some v->w'.zd[i]?=some v'->Bg v v' λj k s=>o (.slot i j k s)
 fC:w'.ze.length=w.ze.length
 ng:∀(i:Nat) l l',w.ze[i]?=some l->w'.ze[i]?=some l'->l'.name=l.name/\(l.drain=true->l'.drain=true)
 lim:w.zp.length<=w'.zp.length
 zp:∀(i:Nat) r r',w.zp[i]?=some r->w'.zp[i]?=some r'->r'.version=r.version/\r'.at_=r.at_/\(o .lock=0->r'.gone=r.gone)
def jB{α:Type}{l:List α}{i:Nat}{x y:α}(h:l[i]?=some x)(h':l[i]?=some y):y=x:=by rw[h]at h';cases h';rfl
def yj{w w':Wor}{o:Key->Nat}(h0:w.zl<=w'.zl)(h1:w'.pins.length=w.pins.length)(h2:w'.counts.length=w.counts.length)(h3:w'.zd=w.zd)(h4:w'.ze=w.ze)(h5:w'.zp=w.zp):xb w w' o:=by
 refine⟨h0,h1,h2,by rw[h3];exact gC _,λi v v' h h'=>?_,by rw[h4],λi l l' h h'=>?_,by rw[h5];exact gC _,λi r r' h h'=>?_⟩
 ·rw[h3]at h';rw[jB h h'];exact Bg.refl v _
 ·rw[h4]at h';rw[jB h h'];exact⟨rfl,id⟩
 ·rw[h5]at h';rw[jB h h'];exact dR
def xb.refl(w:Wor)(o:Key->Nat):xb w w o:=yj (gL _) J J J J J
def wO{w:Wor}{m:fi}{v:fp}{g:Gr}{e e':En}{tk:Int}{o:Key->Nat}(hat:ic w m v g e)(h:Ck e e' λs=>o (.slot m.version m.zg m.end_ s)):xb w (mR w m v g e' tk) o:=by
 have p1:=hat.v0;have p2:=hat.g0;have p3:=hat.e0;refine⟨gL _,rfl,rfl,by show _<=(w.zd.set _ _).length;rw[pU];exact gC _,λi v1 v2 h1 h2=>?_,rfl,λi l l' h1 h2=>?_,gC _,λi r r' h1 h2=>?_⟩
 ·rcases jy h2 with⟨rfl,rfl,_⟩|⟨_,h2⟩
  ·rw[jB hat.at_ h1];refine⟨rfl,aj,λj g1 g2 h3 h4=>?_⟩;rcases jy h4 with⟨rfl,rfl,_⟩|⟨_,h4⟩
   ·rw[jB hat.fG h3];refine⟨aj,λk e1 e2 h5 h6=>?_⟩;rcases jy h6 with⟨rfl,rfl,_⟩|⟨_,h6⟩
    ·rw[jB hat.fP h5,rF p1,rF p2,rF p3];exact h
    ·rw[jB h5 h6];exact Ck.refl e1 _
   ·rw[jB h3 h4];exact Dg.refl g1 _
  ·rw[jB h1 h2];exact Bg.refl v1 _
 ·rw[jB h1 h2];exact⟨rfl,id⟩
 ·rw[jB h1 h2];exact dR
def DT{w:Wor}{i:Nat}{x y:fI}{o:Key->Nat}(hx:w.ze[i]?=some x)(hn:y.name=x.name)(hd:x.drain=true->y.drain=true):xb w {w with ze:=w.ze.set i y} o:=by
 refine⟨gL _,rfl,rfl,gC _,λi v1 v2 h1 h2=>?_,aj,λj l l' h1 h2=>?_,gC _,λi r r' h1 h2=>?_⟩
 ·rw[jB h1 h2];exact Bg.refl v1 _
 ·rcases jy h2 with⟨rfl,rfl,_⟩|⟨_,h2⟩
  ·rw[jB hx h1];exact⟨hn,hd⟩
  ·rw[jB h1 h2];exact⟨rfl,id⟩
 ·rw[jB h1 h2];exact dR
def Om{α:Type}{l l2:List α}{i:Nat}{x y:α}(h:l[i]?=some x)(h':(l++l2)[i]?=some y):y=x:=by
 rw[gy (dW.1 h).1]at h';exact jB h h'
def VJ{w:Wor}{v:fp}{n:Int}{o:Key->Nat}:xb w {w with current:=n,zd:=w.zd++[v]} o:=by
 refine⟨gL _,rfl,rfl,aj,λi v1 v2 h1 h2=>?_,rfl,λi l l' h1 h2=>?_,gC _,λi r r' h1 h2=>?_⟩
 ·rw[Om h1 h2];exact Bg.refl v1 _
 ·rw[jB h1 h2];exact⟨rfl,id⟩
 ·rw[jB h1 h2];exact dR
def Yi{w:Wor}{x:fH}{o:Key->Nat}:xb w {w with zp:=w.zp++[x]} o:=by
 refine⟨gL _,rfl,rfl,gC _,λi v1 v2 h1 h2=>?_,rfl,λi l l' h1 h2=>?_,aj,λi r r' h1 h2=>?_⟩
 ·rw[jB h1 h2];exact Bg.refl v1 _
 ·rw[jB h1 h2];exact⟨rfl,id⟩
 ·rw[Om h1 h2];exact dR
def Tu{w:Wor}{i k:Nat}{v:fp}{x:fH}{o:Key->Nat}(ho:o .lock=1)(hv:w.zd[k]?=some v)(hx:w.zp[i]?=some x):xb w {w with zd:=w.zd.set k (wj v),zp:=w.zp.set i (vL x)} o:=by
 refine⟨gL _,rfl,rfl,aj,λj v1 v2 h1 h2=>?_,rfl,λi l l' h1 h2=>?_,aj,λj r r' h1 h2=>?_⟩
 ·rcases jy h2 with⟨rfl,rfl,_⟩|⟨_,h2⟩
  ·rw[jB hv h1];exact⟨rfl,rfl,λj g g' h3 h4=>by rw[jB h3 (show v.zo[j]?=some g' from h4)];exact Dg.refl g _⟩
  ·rw[jB h1 h2];exact Bg.refl v1 _
 ·rw[jB h1 h2];exact⟨rfl,id⟩
 ·rcases jy h2 with⟨rfl,rfl,_⟩|⟨_,h2⟩
  ·rw[jB hx h1];exact⟨rfl,rfl,λz=>by omega⟩
  ·rw[jB h1 h2];exact dR
structure iE(w:Wor)(m:fi)(v:fp)(g:Gr)(e:En):Prop where
 pc:(0<=m.pc/\m.pc<=12)\/(20<=m.pc/\m.pc<=23)
 ep:m.pc=1\/m.pc=2->0<=m.zl/\m.zl<=w.zl
 fC:(4<=m.pc/\m.pc<=12)\/m.pc=22->0<=m.listen
 early:4<=m.pc/\m.pc<=5->m.zg=0/\m.end_=0/\m.other=0
 BB:4<=m.pc/\m.pc<=8->m.slot=0
 draw:m.pc=6->∃c,v.snap.zn[m.zg.toNat]?=some c/\(fj c).length≠0
 slot:m.pc=10\/m.pc=11->m.slot=zB m.word/\m.word / 4294967296<=mF e
 link:m.pc=11->e.head=m.word->e.next[m.slot.toNat]?=some m.link
 mM:20<=m.pc->1<=m.answer.kind/\m.answer.kind<=5/\(m.answer.kind=1->m.answer=C1 m/\0<=m.listen)
 kind:m.pc=22->m.answer.kind≠1
structure G5(w:Wor)(m:fi)(v:fp)(g:Gr)(e:En):Prop where
 pc:(0<=m.pc/\m.pc<=4)\/m.pc=9
 fC:m.pc<=4->0<=m.listen
 tag:m.pc=1\/m.pc=2->m.word / 4294967296<=mF e/\zB m.word<=3
 next:m.pc=2->e.next[m.slot.toNat]?=some (zB m.word)
structure G6(w:Wor)(m:fi)(v:fp)(g:Gr)(e:En):Prop where
 pc:0<=m.pc/\m.pc<=2
 ep:m.pc=2->0<=m.zl/\m.zl<=w.zl
structure ET(w:Wor)(m:fi)(v:fp)(g:Gr)(e:En):Prop where
 pc:(0<=m.pc/\m.pc<=6)\/(8<=m.pc/\m.pc<=10)
 nM:m.pc=2->m.i<w.pins.length
 lim:m.pc=5\/m.pc=6->∃r,w.zp[m.i.toNat]?=some r/\r.version=m.version/\r.gone=false
 act:m.pc=5->m.k<(xc v).length
 fC:m.pc=9\/m.pc=10->∃l,w.ze[m.i.toNat]?=some l/\l.drain=true
structure DB(w:Wor)(m:fi)(v:fp)(g:Gr)(e:En):Prop where
 pc:m.pc=0
 k:m.k<6
 i:m.i<w.counts.length
def Lc(w:Wor)(m:fi)(v:fp)(g:Gr)(e:En):Prop:=(m.op.kind=1/\iE w m v g e)\/(m.op.kind=2/\G5 w m v g e)\/(m.op.kind=3/\G6 w m v g e)\/(m.op.kind=4/\m.pc=0)\/(m.op.kind=5/\ET w m v g e)\/(m.op.kind=6/\DB w m v g e)
def l9(m:fi):Prop:=1<=m.answer.kind/\m.answer.kind<=5/\(m.answer.kind=1->m.answer=C1 m/\0<=m.listen)
abbrev PI(m:fi):fA:=⟨6,m.version,m.zg,m.end_,m.slot,m.listen,0,⟨0,0,0,0,0,0⟩⟩
def Ky(m:fi):Prop:=m.answer=PI m/\m.pc=4\/m.answer=mj 7/\m.pc=9
def BX(m:fi):Prop:=7<=m.answer.kind/\m.answer.kind<=13
def G0(m:fi):Prop:=(m.op.kind=1/\l9 m)\/(m.op.kind=2/\Ky m)\/(3<=m.op.kind/\m.op.kind<=6/\BX m)
structure Nc(N K:Nat)(w:Wor)(m:fi)(L:Wor->fi->fp->Gr->En->Prop)(F:fi->Prop)(r:Wor×fi×fk):Prop where
 ev:r.2.2.access≠0
 st:St (N+1) (K+1) r.1
 tg:Tg (N+1) r.1
 tm:iq r.2.1
 op:r.2.1.op=m.op
 th:r.2.1.zf=m.zf
 keep:xb w r.1 (j3 m)
 mv:Mv w r.1 (j3 m) (j3 r.2.1)
 go:(r.2.1.done=true/\F r.2.1)\/∃v g e,qS r.1 r.2.1 v g e/\L r.1 r.2.1 v g e
def C2{N:Nat}{w:Wor}{m:fi}{v:fp}{g:Gr}{e e':En}{tk:Int}(h:Tg N w)(hat:ic w m v g e)(h':Bx N e'):Tg N (mR w m v g e' tk):=λv2 hv g2 hg e2 he=>by
 have mv:=dY hat.at_;have mg:=dY hat.fG;rcases mem_set hv with hv|rfl
 ·exact h v2 hv g2 hg e2 he
 ·rcases mem_set hg with hg|rfl
  ·exact h v mv g2 hg e2 he
  ·rcases mem_set he with he|rfl
   ·exact h v mv g mg e2 he
   ·exact h'
def Dm{N:Nat}{w:Wor}{m:fi}{v:fp}{g:Gr}{e:En}(h:Tg N w)(hat:ic w m v g e):Bx N e:=h v (dY hat.at_) g (dY hat.fG) e (dY hat.fP)
section
variable {N K:Nat} {w:Wor} {m:fi} {v:fp} {g:Gr} {e:En}
def Zu(st:St N K w)(tg:Tg N w)(su:qS w m v g e)(tm:iq m)(lo:iE w m v g e)(hk:m.op.kind=1)(h3:m.pc<3):∃r,qj w m v g e=some r/\Nc N K w m iE l9 r:=by
 have gw:=st.ji;have ge:=qi.1 gw.ground;have hep:=ge.zl;have st1:St (N+1) (K+1) w:=st.mono aw aw;have tg1:=tg.mono (pW N);have lp:=lo.pc;unfold qj;rw[gh h3];unfold Bw;rcases(by omega:m.pc=0\/m.pc=1\/m.pc=2) with p|p|p
 ·rw[gh p];exact zS J ⟨uX,st1,tg1,uO,rfl,rfl,xb.refl w _,qq w (k8 (fO su.done hk uM) (fO su.done hk uM)),.inr ⟨v,g,e,uQ,⟨uL,λ_=>⟨hep.1,gL _⟩,uK,uK,uK,uK,uK,uK,uK,uK⟩⟩⟩
 ·have he:=lo.ep (.inl p);have hw:IntKind.i64.wrap (m.zl+1)=m.zl+1:=jx aw aw;rw[dZ aw,gh p,hw];have sp:=st1.nM m.zf.toNat (p:=m.zl+1) aw aw
  exact zS J ⟨tN,sp,tg1,uO,rfl,rfl,yj (gL _) aj J J J J,CT J J J J J (k8 (fO su.done hk uM) (fO su.done hk uM)),.inr ⟨v,g,e,⟨qB.2 sp.ji,aq su.zf,su.done,su.version,su.fN,su.zg,su.fG,su.end_,su.fP,su.other,su.slot,su.listen,su.i,su.k⟩,
   ⟨uL,λ_=>he,uK,uK,uK,uK,uK,uK,uK,uK⟩⟩⟩
 ·rw[dZ aw,dZ aw,gh p];by_cases q:w.zl=m.zl
  ·rw[gh q];exact zS J ⟨uX,st1,tg1,uO,rfl,rfl,xb.refl w _,qq w (k8 (fO su.done hk uM) (fO su.done hk uM)),.inr ⟨v,g,e,uQ,⟨uL,uK,uK,uK,uK,uK,uK,uK,uK,uK⟩⟩⟩
  ·rw[dZ q];exact zS J ⟨uX,st1,tg1,uO,rfl,rfl,xb.refl w _,qq w (k8 (fO su.done hk uM) (fO su.done hk uM)),.inr ⟨v,g,e,uQ,⟨uL,λ_=>⟨hep.1,gL _⟩,uK,uK,uK,uK,uK,uK,uK,uK⟩⟩⟩
def zx3(st:St N K w)(tg:Tg N w)(su:qS w m v g e)(tm:iq m)(lo:iE w m v g e)(hk:m.op.kind=1)(hN:N<=100000000)(p:m.pc=3):∃r,qj w m v g e=some r/\Nc N K w m iE l9 r:=by
 have gw:=st.ji;have st1:St (N+1) (K+1) w:=st.mono aw aw;have tg1:=tg.mono (pW N);have pr:=Lk w.ze m.op.listen;have hl:=st.ty.fC;have cu:=gw.current;obtain⟨v',hv'⟩:∃v',w.zd[w.current.toNat]?=some v':=⟨_,dX aw⟩;have gv:=(gw.fM _ v' hv').1;have h0:0<v'.zo.length:=aE
 obtain⟨g',e',hg,he,l1,l2⟩:=CP gv h0;unfold qj;rw[dZ aw,gh p];by_cases q:zU w.ze m.op.listen<0
 ·rw[gh q];refine zS J ⟨uX,st1,tg1,⟨aJ,tm.word,tm.link,tm.host,tm.path,tm.d0,tm.d1,tm.cfg,(λh=>absurd ((show m.op.kind=6 from h).symm.trans hk) ar)⟩,rfl,rfl,xb.refl w _,qq w (k8 (fO su.done hk uM) (fO su.done hk ?_)),.inr ⟨v',g',e',⟨su.world,su.zf,su.done,cu,hv',⟨gL _,aK⟩,hg,⟨gL _,aK⟩,he,⟨gL _,aK⟩,⟨gL _,aK⟩,pr,su.i,su.k⟩,⟨uL,uK,uK,uK,uK,uK,uK,uK,λ_=>⟨by show(1:Int)<=2;decide,by show(2:Int)<=5;decide,λh=>absurd (show(2:Int)=1 from h) ar⟩,uK⟩⟩⟩;dsimp only;(repeat' split) <;> omega
 ·rw[dZ q]
  exact zS J ⟨uX,st1,tg1,⟨aJ,tm.word,tm.link,tm.host,tm.path,tm.d0,tm.d1,tm.cfg,tm.mM⟩,rfl,rfl,xb.refl w _,qq w (k8 (fO su.done hk uM) (fO su.done hk uM)),.inr ⟨v',g',e',⟨su.world,su.zf,su.done,cu,hv',⟨gL _,aK⟩,hg,⟨gL _,aK⟩,he,⟨gL _,aK⟩,⟨gL _,aK⟩,pr,su.i,su.k⟩,
   ⟨uL,uK,λ_=>by show 0<=zU w.ze m.op.listen;omega,λ_=>⟨rfl,rfl,rfl⟩,λ_=>J,uK,uK,uK,uK,uK⟩⟩⟩
def zx4(st:St N K w)(tg:Tg N w)(su:qS w m v g e)(tm:iq m)(lo:iE w m v g e)(hk:m.op.kind=1)(hK:K<=1099511627776)(p:m.pc=4):∃r,qj w m v g e=some r/\Nc N K w m iE l9 r:=by
 have gw:=st.ji;have tg1:=tg.mono (pW N);have l0:=lo.fC (.inl aw);have sl:=su.listen;obtain⟨x,hx⟩:∃x,w.ze[m.listen.toNat]?=some x:=⟨_,dX aw⟩;have li:=D7 (gw.fC _ x hx).1;have ca:=st.iJ.fC x (dY hx);have hw:IntKind.i64.wrap (x.zi+1)=x.zi+1:=jx aw aw;have st2:=Jr st su hx (x.zi+1) aw aw hK;unfold qj iU;rw[dZ aw,dZ aw,gh p,dZ aw,hx,gF];unfold PO;rw[hw]
 exact zS J ⟨tL,st2,tg1,uO,rfl,rfl,DT hx J id,Ad (p:=0) (p':=1) (fO su.done hk uM) (fO su.done hk uM) (Ym l0 hx li.2.1 J _ _ _ _ _ _ _ _ _),.inr ⟨v,g,e,⟨qB.2 st2.ji,su.zf,su.done,su.version,su.fN,su.zg,su.fG,su.end_,su.fP,su.other,su.slot,aq su.listen,su.i,su.k⟩,
  ⟨uL,uK,λ_=>l0,λ_=>lo.early aw,λ_=>lo.BB aw,uK,uK,uK,uK,uK⟩⟩⟩
def zx5(st:St N K w)(tg:Tg N w)(su:qS w m v g e)(tm:iq m)(lo:iE w m v g e)(hk:m.op.kind=1)(p:m.pc=5):∃r,qj w m v g e=some r/\Nc N K w m iE l9 r:=by
 have gw:=st.ji;have st1:St (N+1) (K+1) w:=st.mono aw aw;have tg1:=tg.mono (pW N);have l0:=lo.fC (.inl aw);have sl:=su.listen;obtain⟨x,hx⟩:∃x,w.ze[m.listen.toNat]?=some x:=⟨_,dX aw⟩;obtain⟨z1,z2,z3⟩:=lo.early aw;have z4:=lo.BB aw;have gv:=(gw.fM _ v su.fN).1;unfold qj iU;rw[dZ aw,dZ aw,dZ aw,gh p,dZ aw,hx,gF];cases hd:x.drain
 ·simp only[sd,if_false];obtain⟨c0,c,hc⟩:=NJ gv.snap m.op.listen m.op.host m.op.path;by_cases f:(xH m v).2=0
  ·have glt:(xH m v).1.toNat<v.zo.length:=by have:=(dW.1 hc).1;have:=gv.len;show(AY v.snap m.op.listen m.op.host m.op.path).1.toNat<_;omega
   obtain⟨g',e',hg,he,q1,q2⟩:=CP gv glt;have c0':0<=(xH m v).1:=c0;have su':∀pc an,qS w {m with zg:=(xH m v).1,pc:=pc,answer:=an} v g' e':=λpc an=>⟨su.world,su.zf,su.done,su.version,su.fN,⟨c0',by show(xH m v).1<_;omega⟩,hg,⟨by show 0<=m.end_;omega,by show m.end_<_;omega⟩,by show g'.ends[m.end_.toNat]?=_;rw[z2];exact he,⟨by show 0<=m.other;omega,by show m.other<_;omega⟩,⟨aL,aM⟩,su.listen,su.i,su.k⟩
   by_cases d:(va c m.op.d0 m.op.d1).2.2=0
   ·have hn:(fj c).length≠0:=by
     intro hz;unfold va at d;rw[gh hz]at d;cases d
    by_cases po:c.xY=1
    ·rw[Mi f hc d po];exact zS J ⟨uX,st1,tg1,uO,rfl,rfl,xb.refl w _,qq w (mT (fO su.done hk uM) (fO su.done hk uM) J),.inr ⟨v,g',e',su' 6 m.answer,⟨uL,uK,λ_=>l0,uK,λ_=>z4,λ_=>⟨c,hc,hn⟩,uK,uK,uK,uK⟩⟩⟩
    ·rw[Mj f hc d po];have gl:=(gv.Aw _ g' c hg hc).1;have dv:va c m.op.d0 m.op.d1=(yx c m.op.d0,yx c m.op.d1,0):=by unfold va;rw[dZ hn]
     have r0:=JC (n:=m.op.d0) hn;have r1:=JC (n:=m.op.d1) hn;have d1:(va c m.op.d0 m.op.d1).1=yx c m.op.d0:=by rw[dv]
     have d2:(va c m.op.d0 m.op.d1).2.1=yx c m.op.d1:=by rw[dv]
     rw[d1,d2];have r0':0<=yx c m.op.d0/\yx c m.op.d0<c.zR.length:=r0;have r1':0<=yx c m.op.d1/\yx c m.op.d1<c.zR.length:=r1;obtain⟨e2,he2⟩:∃e2,g'.ends[(yx c m.op.d0).toNat]?=some e2:=⟨_,dX aw⟩;have n2:=((gv.lD.2 g' (dY hg)).2.2 e2 (dY he2)).2
     exact zS J ⟨uX,st1,tg1,uO,rfl,rfl,xb.refl w _,qq w (mT (fO su.done hk uM) (fO su.done hk uM) J),.inr ⟨v,g',e2,⟨su.world,su.zf,su.done,su.version,su.fN,⟨c0',by show(xH m v).1<_;omega⟩,hg,⟨r0'.1,by show yx c m.op.d0<_;omega⟩,he2,⟨r1'.1,by show yx c m.op.d1<_;omega⟩,⟨aL,aM⟩,su.listen,su.i,su.k⟩,
      ⟨uL,uK,λ_=>l0,uK,λ_=>z4,uK,uK,uK,uK,uK⟩⟩⟩
   ·rw[Lo f hc d];exact zS J ⟨uX,st1,tg1,uP,rfl,rfl,xb.refl w _,qq w (mT (fO su.done hk uM) (fO su.done hk uM) J),.inr ⟨v,g',e',su' 20 (mj 3),⟨uL,uK,uK,uK,uK,uK,uK,uK,λ_=>⟨by show(1:Int)<=3;decide,by show(3:Int)<=5;decide,λh=>absurd (show(3:Int)=1 from h) ar⟩,uK⟩⟩⟩
  ·rw[Nk f];exact zS J ⟨uX,st1,tg1,uP,rfl,rfl,xb.refl w _,qq w (mT (fO su.done hk uM) (fO su.done hk uM) J),.inr ⟨v,g,e,uQ,⟨uL,uK,uK,uK,uK,uK,uK,uK,λ_=>⟨by show(1:Int)<=2;decide,by show(2:Int)<=5;decide,λh=>absurd (show(2:Int)=1 from h) ar⟩,uK⟩⟩⟩
 ·simp only[if_true];exact zS J ⟨uX,st1,tg1,uP,rfl,rfl,xb.refl w _,qq w (mT (fO su.done hk uM) (fO su.done hk uM) J),.inr ⟨v,g,e,uQ,⟨uL,uK,uK,uK,uK,uK,uK,uK,λ_=>⟨by show(1:Int)<=5;decide,by show(5:Int)<=5;decide,λh=>absurd (show(5:Int)=1 from h) ar⟩,uK⟩⟩⟩
def zx6(st:St N K w)(tg:Tg N w)(su:qS w m v g e)(tm:iq m)(lo:iE w m v g e)(hk:m.op.kind=1)(p:m.pc=6):∃r,qj w m v g e=some r/\Nc N K w m iE l9 r:=by
 have gw:=st.ji;have tg1:=tg.mono (pW N);obtain⟨f1,f2,f3,f4,f5,f6,f7⟩:=kj st su;have gv:=(gw.fM _ v su.fN).1;obtain⟨c,hc,hn⟩:=lo.draw p;have l0:=lo.fC (.inl aw);have z:=lo.BB aw;have gl:=(gv.Aw _ g c su.fG hc).1;have tr:=JC (n:=g.zu) hn;have tv:(nX c g.zu).1=((fj c)[(g.zu%(fj c).length).toNat]?).getD 0:=by unfold nX;rw[dZ hn]
 rw[<-tv]at tr;obtain⟨e2,he2⟩:∃e2,g.ends[(nX c g.zu).1.toNat]?=some e2:=⟨_,dX aw⟩;have n2:=((gv.lD.2 g (dY su.fG)).2.2 e2 (dY he2)).2;have st2:=(st.mono aw aw:St (N+1) (K+1) w).mG su.at_ (e':=qs e e.head e.zi) (tk:=IntKind.u64.wrap (g.zu+1)) f1 J f6 (Y9 _) aN;have eset:g.ends.set m.end_.toNat (qs e e.head e.zi)=g.ends:=yy _ _ su.fP;have s1:=(dW.1 su.fN).1;have s2:=(dW.1 su.fG).1;have so:=su.other;unfold qj;rw[dZ aw,dZ aw,dZ aw,dZ aw,gh p,hc,gF]
 exact zS J ⟨tL,st2,C2 tg1 su.at_ (e':=qs e e.head e.zi) (Dm tg1 su.at_),uO,rfl,rfl,wO su.at_ (e':=qs e e.head e.zi) (Ck.refl e _),Oz su.at_ (e':=qs e e.head e.zi) J J J (mT (fO su.done hk uM) (fO su.done hk uM) J),.inr ⟨_,_,e2,⟨qB.2 st2.ji,su.zf,su.done,aq su.version,gk s1,aq su.zg,gk s2,⟨tr.1,by show _<(((g.ends.set m.end_.toNat (qs e e.head e.zi)).length:Nat):Int);rw[eset];show(nX c g.zu).1<_;omega⟩,by show(g.ends.set m.end_.toNat (qs e e.head e.zi))[(nX c g.zu).1.toNat]?=some e2;rw[eset];exact he2,aq so,⟨aL,aM⟩,su.listen,su.i,su.k⟩,
  ⟨uL,uK,λ_=>l0,uK,uK,uK,uK,uK,uK,uK⟩⟩⟩
def zx7(st:St N K w)(tg:Tg N w)(su:qS w m v g e)(tm:iq m)(lo:iE w m v g e)(hk:m.op.kind=1)(p:m.pc=7):∃r,qj w m v g e=some r/\Nc N K w m iE l9 r:=by
 obtain⟨f1,f2,f3,f4,f5,f6,f7⟩:=kj st su;have l0:=lo.fC (.inl aw);unfold qj;rw[dZ aw,dZ aw,dZ aw,dZ aw,dZ aw,gh p]
 exact zS J ⟨uX,st.mono aw aw,tg.mono (pW N),uO,rfl,rfl,xb.refl w _,qq w (mT (fO su.done hk uM) (fO su.done hk uM) J),.inr ⟨v,g,e,⟨su.world,su.zf,su.done,su.version,su.fN,su.zg,su.fG,su.end_,su.fP,su.other,su.slot,su.listen,f4,su.k⟩,
  ⟨uL,uK,λ_=>l0,uK,λ_=>lo.BB aw,uK,uK,uK,uK,uK⟩⟩⟩
def zx8(st:St N K w)(tg:Tg N w)(su:qS w m v g e)(tm:iq m)(lo:iE w m v g e)(hk:m.op.kind=1)(p:m.pc=8):∃r,qj w m v g e=some r/\Nc N K w m iE l9 r:=by
 have gv:=(st.ji.fM _ v su.fN).1;have tg1:=tg.mono (pW N);have l0:=lo.fC (.inl aw);have z:=lo.BB aw;have so:=su.other;obtain⟨e2,he2⟩:∃e2,g.ends[m.other.toNat]?=some e2:=⟨_,dX aw⟩;have n2:=((gv.lD.2 g (dY su.fG)).2.2 e2 (dY he2)).2;unfold qj;rw[dZ aw,dZ aw,dZ aw,dZ aw,dZ aw,dZ aw,gh p,he2,gF];by_cases q:e2.zi<m.i
 ·rw[gh q]
  exact zS J ⟨uX,st.mono aw aw,tg1,uO,rfl,rfl,xb.refl w _,qq w (mT (fO su.done hk uM) (fO su.done hk uM) J),.inr ⟨v,g,e2,⟨su.world,su.zf,su.done,su.version,su.fN,su.zg,su.fG,so,he2,so,⟨aL,aM⟩,su.listen,su.i,su.k⟩,
   ⟨uL,uK,λ_=>l0,uK,uK,uK,uK,uK,uK,uK⟩⟩⟩
 ·rw[dZ q]
  exact zS J ⟨uX,st.mono aw aw,tg1,uO,rfl,rfl,xb.refl w _,qq w (mT (fO su.done hk uM) (fO su.done hk uM) J),.inr ⟨v,g,e,uQ,
   ⟨uL,uK,λ_=>l0,uK,uK,uK,uK,uK,uK,uK⟩⟩⟩
def zx9(st:St N K w)(tg:Tg N w)(su:qS w m v g e)(tm:iq m)(lo:iE w m v g e)(hk:m.op.kind=1)(p:m.pc=9):∃r,qj w m v g e=some r/\Nc N K w m iE l9 r:=by
 obtain⟨f1,f2,f3,f4,f5,f6,f7⟩:=kj st su;have tg1:=tg.mono (pW N);have l0:=lo.fC (.inl aw);unfold qj;rw[dZ aw,dZ aw,dZ aw,dZ aw,dZ aw,dZ aw,dZ aw,gh p];by_cases q:0<=zB e.head/\zB e.head<e.next.length
 ·rw[gh q]
  exact zS J ⟨uX,st.mono aw aw,tg1,⟨tm.listen,f6.1,tm.link,tm.host,tm.path,tm.d0,tm.d1,tm.cfg,tm.mM⟩,rfl,rfl,xb.refl w _,qq w (mT (fO su.done hk uM) (fO su.done hk uM) J),.inr ⟨v,g,e,⟨su.world,su.zf,su.done,su.version,su.fN,su.zg,su.fG,su.end_,su.fP,su.other,q,su.listen,su.i,su.k⟩,
   ⟨uL,uK,λ_=>l0,uK,uK,uK,λ_=>⟨rfl,gL _⟩,uK,uK,uK⟩⟩⟩
 ·rw[dZ q];exact zS J ⟨uX,st.mono aw aw,tg1,⟨tm.listen,f6.1,tm.link,tm.host,tm.path,tm.d0,tm.d1,tm.cfg,(λh=>absurd ((show m.op.kind=6 from h).symm.trans hk) ar)⟩,rfl,rfl,xb.refl w _,qq w (mT (fO su.done hk uM) (fO su.done hk uM) J),.inr ⟨v,g,e,uQ,⟨uL,uK,uK,uK,uK,uK,uK,uK,λ_=>⟨by show(1:Int)<=4;decide,by show(4:Int)<=5;decide,λh=>absurd (show(4:Int)=1 from h) ar⟩,uK⟩⟩⟩
def ZU(f1:Slp.fE e=true){s:Int}(h0:0<=s)(h1:s<e.next.length):∃x,e.next[s.toNat]?=some x:=⟨_,dX aw⟩
def zwz(st:St N K w)(tg:Tg N w)(su:qS w m v g e)(tm:iq m)(lo:iE w m v g e)(hk:m.op.kind=1)(p:m.pc=10):∃r,qj w m v g e=some r/\Nc N K w m iE l9 r:=by
 obtain⟨f1,f2,f3,f4,f5,f6,f7⟩:=kj st su;have tg1:=tg.mono (pW N);have l0:=lo.fC (.inl aw);obtain⟨z1,z2⟩:=lo.slot (.inl p);have ss:=su.slot;obtain⟨x,hx⟩:=ZU f1 ss.1 ss.2;have hb:=(Dm tg su.at_).2 x (dY hx);unfold qj;rw[dZ aw,dZ aw,dZ aw,dZ aw,dZ aw,dZ aw,dZ aw,dZ aw,gh p,hx,gF]
 exact zS J ⟨uX,st.mono aw aw,tg1,⟨tm.listen,tm.word,by show -1<=x/\x<=2147483646;omega,tm.host,tm.path,tm.d0,tm.d1,tm.cfg,tm.mM⟩,rfl,rfl,xb.refl w _,qq w (mT (fO su.done hk uM) (fO su.done hk uM) J),.inr ⟨v,g,e,uQ,
  ⟨uL,uK,λ_=>l0,uK,uK,uK,λ_=>⟨z1,z2⟩,λ_ _=>hx,uK,uK⟩⟩⟩
def TO(f1:Slp.fE e=true)(f2:e.next.length<=4):Slp.zB e<=3:=by
 by_cases h:Slp.zB e<0
 ·omega
 ·have:=(Slp.O4 f1 h).2.1;omega
def NC{x i:Int}{N:Nat}(h:x / 4294967296<=N)(hx:u64 x)(hN:N<=100000000)(h1: -1<=i)(h2:i<=2147483646):Slp.ja x i / 4294967296=x / 4294967296+1:=by
 have:=Slp.Vo (x:=x) h1 h2;unfold u64 at hx;omega
def Zo(st:St N K w)(tg:Tg N w)(su:qS w m v g e)(tm:iq m)(lo:iE w m v g e)(hk:m.op.kind=1)(hN:N<=100000000)(p:m.pc=11):∃r,qj w m v g e=some r/\Nc N K w m iE l9 r:=by
 obtain⟨f1,f2,f3,f4,f5,f6,f7⟩:=kj st su;have tg1:=tg.mono (pW N);have te:=Dm tg su.at_;have l0:=lo.fC (.inl aw);obtain⟨z1,z2⟩:=lo.slot (.inr p);have ss:=su.slot;unfold qj;rw[dZ aw,dZ aw,dZ aw,dZ aw,dZ aw,dZ aw,dZ aw,dZ aw,dZ aw,gh p];by_cases q:e.head=m.word
 ·have z3:=lo.link p q;have hh:Slp.zB e=m.slot:=by rw[z1,<-q];rfl
  have hx2:Slp.iA e.next m.slot=m.link:=by unfold Slp.iA;rw[z3];rfl
  have ct:=(Slp.HR (Slp.o6 f1).1 aw).2.1;rw[hh,hx2]at ct;have hd:Slp.zB (qs e (Slp.ja m.word m.link) e.zi)=m.link:=Slp.HX tm.link.1 tm.link.2
  have is2:Slp.fE (qs e (Slp.ja m.word m.link) e.zi)=true:=by
   unfold Slp.fE;rw[hd];simp only[gA,gH];exact⟨⟨⟨ct,f3⟩,f2⟩,f4⟩
  have nt:=NC (i:=m.link) te.1 f6.1 hN tm.link.1 tm.link.2;rw[q]at nt;obtain⟨q1,q2⟩:=X7 f6 f1 hh ss.1 hx2;rw[q]at q1 q2;have st2:=(st.mono aw aw:St (N+1) (K+1) w).mG su.at_ (e':=qs e (Slp.ja m.word m.link) e.zi) (tk:=g.zu) is2 J ⟨Slp.IS tm.link.1 tm.link.2,f6.2⟩ f7 aN;rw[gh q];have ta:mF (qs e (Slp.ja m.word m.link) e.zi)=mF e+1:=by unfold mF;rw[q];exact nt
  exact zS J ⟨aO,st2,C2 tg1 su.at_ (e':=qs e (Slp.ja m.word m.link) e.zi) ⟨by have:=te.1;omega,te.2⟩,uO,rfl,rfl,wO su.at_ (e':=qs e (Slp.ja m.word m.link) e.zi) ⟨rfl,aw,λh=>by omega,λ_ _ _=>J⟩,
   Ad (p:=1) (p':=2) (fO su.done hk uM) (fO su.done hk uM) (zxR su.at_ (e':=qs e (Slp.ja m.word m.link) e.zi) J ss.1 ss.2 q1 q2 J m.listen),.inr ⟨_,_,_,DJ (e':=qs e (Slp.ja m.word m.link) e.zi) (m':={m with pc:=12}) su J st2.ji J su.done J J J J J J J J,
   ⟨uL,uK,λ_=>l0,uK,uK,uK,uK,uK,uK,uK⟩⟩⟩
 ·rw[dZ q]
  exact zS J ⟨aP,st.mono aw aw,tg1,uO,rfl,rfl,xb.refl w _,qq w (mT (fO su.done hk uM) (fO su.done hk uM) J),.inr ⟨v,g,e,uQ,
   ⟨uL,uK,λ_=>l0,uK,uK,uK,uK,uK,uK,uK⟩⟩⟩
def Zp(st:St N K w)(tg:Tg N w)(su:qS w m v g e)(tm:iq m)(lo:iE w m v g e)(hk:m.op.kind=1)(hK:K<=1099511627776)(p:m.pc=12):∃r,qj w m v g e=some r/\Nc N K w m iE l9 r:=by
 obtain⟨f1,f2,f3,f4,f5,f6,f7⟩:=kj st su;have tg1:=tg.mono (pW N);have l0:=lo.fC (.inl aw);have hw:IntKind.i64.wrap (e.zi+1)=e.zi+1:=jx aw aw;have st2:=(st.mono aw aw:St (N+1) (K+1) w).mG su.at_ (e':=qs e e.head (e.zi+1)) (tk:=g.zu) (O5 f1 _ aw) J ⟨f6.1,f6.2.1,by show i64 (e.zi+1);unfold i64;omega⟩ f7 (by show e.zi+1<=_;omega);unfold qj;rw[dZ aw,dZ aw,dZ aw,dZ aw,dZ aw,dZ aw,dZ aw,dZ aw,dZ aw,dZ aw,gh p,hw]
 exact zS J ⟨tL,st2,C2 tg1 su.at_ (e':=qs e e.head (e.zi+1)) (show Bx (N+1) e from Dm tg1 su.at_),uP,rfl,rfl,wO su.at_ (e':=qs e e.head (e.zi+1)) ⟨rfl,gL _,λ_=>J,λ_ _ _=>J⟩,
  Ad (p:=2) (p':=3) (fO su.done hk uM) (fO su.done hk uM) (ZQ su.at_ (e':=qs e e.head (e.zi+1)) J J f4 J m.slot m.listen),.inr ⟨_,_,_,DJ (e':=qs e e.head (e.zi+1)) (m':={m with answer:=C1 m,pc:=20}) su J st2.ji J su.done J J J J J J J J,
  ⟨uL,uK,uK,uK,uK,uK,uK,uK,λ_=>⟨by show(1:Int)<=1;decide,by show(1:Int)<=5;decide,λ_=>⟨rfl,l0⟩⟩,uK⟩⟩⟩
def Zq(st:St N K w)(tg:Tg N w)(su:qS w m v g e)(tm:iq m)(lo:iE w m v g e)(hk:m.op.kind=1)(p:m.pc=20):∃r,qj w m v g e=some r/\Nc N K w m iE l9 r:=by
 have kr:=Tv m.answer.kind;obtain⟨r2,hl,hc⟩:=Mc st su (pc:=21) kr.1 kr.2;have st2:=(st.mono aw aw:St (N+1) (K+1) w).count m.zf.toNat hl;have an:=lo.mM aw
 have ow:j3 m=j3 {m with pc:=21}:=by
  by_cases k1:m.answer.kind=1
  ·exact Dc (p:=3) (fO su.done hk uM) (fO su.done hk uM) J J J J J
  ·by_cases k2:0<=m.listen
   ·exact mT (fO su.done hk uM) (fO su.done hk uM) J
   ·exact k8 (fO su.done hk uM) (fO su.done hk uM)
 unfold qj;rw[dZ aw,dZ aw,dZ aw,dZ aw,dZ aw,dZ aw,dZ aw,dZ aw,dZ aw,dZ aw,dZ aw,gh p,hc]
 exact zS J ⟨tL,st2,tg.mono (pW N),uO,rfl,rfl,yj (gL _) J aj J J J,CT J J J J J ow,.inr ⟨v,g,e,⟨qB.2 st2.ji,su.zf,su.done,su.version,su.fN,su.zg,su.fG,su.end_,su.fP,su.other,su.slot,su.listen,su.i,su.k⟩,
  ⟨uL,uK,uK,uK,uK,uK,uK,uK,λ_=>an,uK⟩⟩⟩
def Zr(st:St N K w)(tg:Tg N w)(su:qS w m v g e)(tm:iq m)(lo:iE w m v g e)(hk:m.op.kind=1)(p:m.pc=21):∃r,qj w m v g e=some r/\Nc N K w m iE l9 r:=by
 obtain⟨r2,hl,hc⟩:=Mc st su (k:=0) (pc:=if m.answer.kind=1\/m.listen<0 then 23 else 22) ar ar;have st2:=(st.mono aw aw:St (N+1) (K+1) w).count m.zf.toNat hl;have an:=lo.mM aw;unfold qj;rw[dZ aw,dZ aw,dZ aw,dZ aw,dZ aw,dZ aw,dZ aw,dZ aw,dZ aw,dZ aw,dZ aw,dZ aw,gh p,hc];by_cases q:m.answer.kind=1\/m.listen<0
 ·rw[gh q]
  have ow:j3 m=j3 {m with pc:=23}:=by
   by_cases k1:m.answer.kind=1
   ·exact Dc (p:=3) (fO su.done hk uM) (fO su.done hk uM) J J J J J
   ·exact k8 (fO su.done hk uM) (fO su.done hk uM)
  exact zS J ⟨tL,st2,tg.mono (pW N),uO,rfl,rfl,yj (gL _) J aj J J J,CT J J J J J ow,.inr ⟨v,g,e,⟨qB.2 st2.ji,su.zf,su.done,su.version,su.fN,su.zg,su.fG,su.end_,su.fP,su.other,su.slot,su.listen,su.i,su.k⟩,
   ⟨uL,uK,uK,uK,uK,uK,uK,uK,λ_=>an,uK⟩⟩⟩
 ·rw[dZ q]
  exact zS J ⟨tL,st2,tg.mono (pW N),uO,rfl,rfl,yj (gL _) J aj J J J,CT J J J J J (mT (fO su.done hk uM) (fO su.done hk uM) J),.inr ⟨v,g,e,⟨qB.2 st2.ji,su.zf,su.done,su.version,su.fN,su.zg,su.fG,su.end_,su.fP,su.other,su.slot,su.listen,su.i,su.k⟩,
   ⟨uL,uK,λ_=>by show 0<=m.listen;omega,uK,uK,uK,uK,uK,λ_=>an,λ_ h=>q (.inl h)⟩⟩⟩
def D5(ow:∀x,j3 m x<=Has w x){p:Nat}(h:ph m=p)(x:Key)(hx:1<=qg p m.version m.zg m.end_ m.slot m.listen x):1<=Has w x:=by
 have:=ow x;rw[jb h]at this;omega
def NM(ow:∀x,j3 m x<=Has w x){p:Nat}(h:ph m=p)(hp:1<=p/\p<=4):0<=m.listen/\∃x,w.ze[m.listen.toNat]?=some x/\1<=x.zi:=by
 have:=D5 ow h (.fC m.listen) (by simp[qg,hp]);simp only[Has]at this;split at this
 ·rename_i q;split at this
  ·rename_i x hx;exact⟨q,x,hx,aw⟩
  ·omega
 ·omega
def Zs(st:St N K w)(tg:Tg N w)(su:qS w m v g e)(tm:iq m)(lo:iE w m v g e)(hk:m.op.kind=1)(hK:K<=1099511627776)(ow:∀x,j3 m x<=Has w x)(p:m.pc=22):∃r,qj w m v g e=some r/\Nc N K w m iE l9 r:=by
 have l0:=lo.fC (.inr p);have k1:=lo.kind p;have p1:ph m=1:=(fO su.done hk uM);obtain⟨_,x,hx,x1⟩:=NM ow p1 ar;have ca:=st.iJ.fC x (dY hx);have hw:IntKind.i64.wrap (x.zi-1)=x.zi-1:=jx aw aw;have st2:=Jr st su hx (x.zi-1) aw aw hK;have an:=lo.mM aw;unfold qj iU;rw[dZ aw,dZ aw,dZ aw,dZ aw,dZ aw,dZ aw,dZ aw,dZ aw,dZ aw,dZ aw,dZ aw,dZ aw,dZ aw,gh p,dZ aw,hx,gF];unfold BT;rw[hw]
 exact zS J ⟨tL,st2,tg.mono (pW N),uO,rfl,rfl,DT hx J id,Ad (p:=1) (p':=0) p1 (fO su.done hk uM) (NU l0 hx x1 J _ _ _ _ _ _ _ _ _),.inr ⟨v,g,e,⟨qB.2 st2.ji,su.zf,su.done,su.version,su.fN,su.zg,su.fG,su.end_,su.fP,su.other,su.slot,aq su.listen,su.i,su.k⟩,
  ⟨uL,uK,uK,uK,uK,uK,uK,uK,λ_=>an,uK⟩⟩⟩
def Zt(st:St N K w)(tg:Tg N w)(su:qS w m v g e)(tm:iq m)(lo:iE w m v g e)(hk:m.op.kind=1)(p:m.pc=23):∃r,qj w m v g e=some r/\Nc N K w m iE l9 r:=by
 have ep:=(qi.1 st.ji.ground).zl;have st2:=(st.mono aw aw:St (N+1) (K+1) w).nM m.zf.toNat (p:=0) aw aw;have an:=lo.mM aw
 have ow:j3 m=j3 {m with done:=true}:=by
  by_cases k1:m.answer.kind=1
  ·exact Dc (p:=3) (fO su.done hk uM) (Nd J hk k1) J J J J J
  ·exact k8 (fO su.done hk uM) (yV J (λh=>k1 h.2))
 unfold qj;rw[dZ aw,dZ aw,dZ aw,dZ aw,dZ aw,dZ aw,dZ aw,dZ aw,dZ aw,dZ aw,dZ aw,dZ aw,dZ aw,dZ aw,gh p];exact zS J ⟨tN,st2,tg.mono (pW N),uP,rfl,rfl,yj (gL _) aj J J J J,CT J J J J J ow,.inl ⟨rfl,an⟩⟩
def U0(st:St N K w)(tg:Tg N w)(su:qS w m v g e)(tm:iq m)(lo:iE w m v g e)(hk:m.op.kind=1)(hN:N<=100000000)(hK:K<=1099511627776)(ow:∀x,j3 m x<=Has w x):∃r,qj w m v g e=some r/\Nc N K w m iE l9 r:=by
 have pc:=lo.pc;by_cases h3:m.pc<3
 ·exact Zu st tg su tm lo hk h3
 rcases(by omega:m.pc=3\/m.pc=4\/m.pc=5\/m.pc=6\/m.pc=7\/m.pc=8\/m.pc=9\/m.pc=10\/m.pc=11\/m.pc=12\/m.pc=20\/m.pc=21\/m.pc=22\/m.pc=23) with p|p|p|p|p|p|p|p|p|p|p|p|p|p
 ·exact zx3 st tg su tm lo hk hN p
 ·exact zx4 st tg su tm lo hk hK p
 ·exact zx5 st tg su tm lo hk p
 ·exact zx6 st tg su tm lo hk p
 ·exact zx7 st tg su tm lo hk p
 ·exact zx8 st tg su tm lo hk p
 ·exact zx9 st tg su tm lo hk p
 ·exact zwz st tg su tm lo hk p
 ·exact Zo st tg su tm lo hk hN p
 ·exact Zp st tg su tm lo hk hK p
 ·exact Zq st tg su tm lo hk p
 ·exact Zr st tg su tm lo hk p
 ·exact Zs st tg su tm lo hk hK ow p
 ·exact Zt st tg su tm lo hk p
end
end Go.Wor
