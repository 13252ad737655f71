import Derived.Test.YtoeaoedlpmohoaaGreatR1
set_option linter.all false
set_option maxRecDepth 100000
set_option maxHeartbeats 4000000
namespace Go.Wor
open Go.Ab Go.Proofs Tryz Go.Hy Go.Gat Go.Nam Go.Hos Go.Con Go.Sna
inductive Key
 |slot (i j k s:Int)
 |act (i j k:Int)
 |fI (i:Int)
 |fX (i:Int)
 |lock
def ph(m:fq):Nat:=
 if m.done=true then (if m.op.kind=1/\m.answer.kind=1 then 3 else 0)
 else if m.op.kind=1 then (if 5<=m.pc/\m.pc<=11 then 1 else if m.pc=12 then 2 else if 20<=m.pc then (if m.answer.kind=1 then 3 else if m.pc<=22/\0<=m.listen then 1 else 0) else 0)
 else if m.op.kind=2 then (if m.pc<=2 then 3 else if m.pc=3 then 4 else if m.pc=4 then 1 else 0)
 else if m.op.kind=3 then (if 1<=m.pc then 5 else 0)
 else if m.op.kind=5 then (if 1<=m.pc then 6 else 0)
 else 0
def qh(p:Nat)(i j k s l:Int):Key->Nat
 |.slot i' j' k' s'=>if (p=2\/p=3)/\i=i'/\j=j'/\k=k'/\s=s' then 1 else 0
 |.act i' j' k'=>if (p=3\/p=4)/\i=i'/\j=j'/\k=k' then 1 else 0
 |.fI l'=>if (1<=p/\p<=4)/\l=l' then 1 else 0
 |.fX i'=>if p=5/\i=i' then 1 else 0
 |.lock=>if p=6 then 1 else 0
def j6(m:fq):Key->Nat:=qh (ph m) m.version m.zg m.end_ m.slot m.listen
def mH(a:fF):Key->Nat:=qh 3 a.version a.zg a.end_ a.slot a.listen
def jE{m:fq}{p:Nat}(h:ph m=p):j6 m=qh p m.version m.zg m.end_ m.slot m.listen:=by unfold j6;rw[h]
def kR(i j k s l:Int)(x:Key):qh 0 i j k s l x=0:=by cases x <;> simp[qh]
def ZK(i j k s l i' j' k' s':Int):qh 1 i j k s l=qh 1 i' j' k' s' l:=by funext x;cases x <;> simp[qh]
def ZL(i j k s l j' k' s' l':Int):qh 5 i j k s l=qh 5 i j' k' s' l':=by funext x;cases x <;> simp[qh]
def ZM(i j k s l i' j' k' s' l':Int):qh 6 i j k s l=qh 6 i' j' k' s' l':=by funext x;cases x <;> simp[qh]
def fY{m:fq}{n:Nat}(hd:m.done=false)(hk:m.op.kind=1)(h:(if 5<=m.pc/\m.pc<=11 then 1 else if m.pc=12 then 2 else if 20<=m.pc then (if m.answer.kind=1 then 3 else if m.pc<=22/\0<=m.listen then 1 else 0) else 0)=n):ph m=n:=by
 unfold ph;rw[gu aI,gC hk];exact h
def lH{m:fq}{n:Nat}(hd:m.done=false)(hk:m.op.kind=2)(h:(if m.pc<=2 then 3 else if m.pc=3 then 4 else if m.pc=4 then 1 else 0)=n):ph m=n:=by
 unfold ph;rw[gu aI,gu aw,gC hk];exact h
def Aw{m:fq}{n:Nat}(hd:m.done=false)(hk:m.op.kind=3)(h:(if 1<=m.pc then 5 else 0)=n):ph m=n:=by
 unfold ph;rw[gu aI,gu aw,gu aw,gC hk];exact h
def i7{m:fq}{n:Nat}(hd:m.done=false)(hk:m.op.kind=5)(h:(if 1<=m.pc then 6 else 0)=n):ph m=n:=by
 unfold ph;rw[gu aI,gu aw,gu aw,gu aw,gC hk];exact h
def DT{m:fq}(hd:m.done=false)(h1:m.op.kind≠1)(h2:m.op.kind≠2)(h3:m.op.kind≠3)(h5:m.op.kind≠5):ph m=0:=by
 unfold ph;rw[gu aI,gu h1,gu h2,gu h3,gu h5]
def yK{m:fq}(hd:m.done=true)(h:¬(m.op.kind=1/\m.answer.kind=1)):ph m=0:=by
 unfold ph;rw[gC hd,gu h]
def Mk{m:fq}(hd:m.done=true)(hk:m.op.kind=1)(h:m.answer.kind=1):ph m=3:=by
 unfold ph;rw[gC hd,gC ⟨hk,h⟩]
def lb(w:Wor)(i j k:Int):Option En:=if 0<=i/\0<=j/\0<=k then wJ w i j k else none
def iR(e:En)(s:Int):Nat:=if 0<=s/\s<e.next.length/\s∉(Slp.qF e).1 then 1 else 0
def Has(w:Wor):Key->Nat
 |.slot i j k s=>match lb w i j k with
  |some e=>iR e s
  |none=>0
 |.act i j k=>match lb w i j k with
  |some e=>e.zi.toNat
  |none=>0
 |.fI i=>if 0<=i then (match w.zd[i.toNat]? with
  |some l=>l.zi.toNat
  |none=>0) else 0
 |.fX i=>if 0<=i/\i<w.ze.length/\i≠w.current/\∀r∈w.zu,r.version≠i then 1 else 0
 |.lock=>w.lock.toNat
def Mv(w w':Wor)(a b:Key->Nat):Prop:=∀x,Has w' x+a x=Has w x+b x
def N6{w:Wor}{m:fq}{v:fB}{g:Gr}{e:En}(hat:iz w m v g e):lb w m.version m.zg m.end_=some e:=by
 unfold lb;rw[gC ⟨hat.v0,hat.g0,hat.e0⟩];exact FF hat
def MB{w:Wor}{m:fq}{v:fB}{g:Gr}{e:En}(hat:iz w m v g e)(e':En)(tk i j k:Int):lb (mE w m v g e' tk) i j k=if i=m.version/\j=m.zg/\k=m.end_ then some e' else lb w i j k:=by
 have p1:=hat.v0;have p2:=hat.g0;have p3:=hat.e0;unfold lb;rw[EY hat];by_cases h:0<=i/\0<=j/\0<=k
 ·rw[gC h,gC h];by_cases q:i=m.version/\j=m.zg/\k=m.end_
  ·rw[gC q,gC (by rw[q.1,q.2.1,q.2.2];exact⟨rfl,rfl,rfl⟩)]
  ·rw[gu q,gu (λz=>q aw)]
 ·rw[gu h,gu h,gu (λz=>h aw)]
def LZ{w w':Wor}(h:w'.ze=w.ze)(i j k:Int):lb w' i j k=lb w i j k:=by unfold lb wJ;rw[h]
def qn(w:Wor){a b:Key->Nat}(h:a=b):Mv w w a b:=λx=>by rw[h]
def Cy{w w':Wor}{a b:Key->Nat}(h1:w'.ze=w.ze)(h2:w'.zd=w.zd)(h3:w'.zu=w.zu)(h4:w'.current=w.current)(h5:w'.lock=w.lock)(h:a=b):Mv w w' a b:=λx=>by
 rw[h];cases x with
 |slot i j k s=>simp only[Has,LZ h1]
 |act i j k=>simp only[Has,LZ h1]
 |fI i=>simp only[Has,h2]
 |fX i=>simp only[Has,h1,h3,h4]
 |lock=>simp only[Has,h5]
section
variable {w:Wor} {m:fq} {v:fB} {g:Gr} {e e':En} {tk:Int}
def WE(hat:iz w m v g e)(e':En)(tk:Int)(x:Key):Has (mE w m v g e' tk) x=match x with
  |.slot i j k s=>if i=m.version/\j=m.zg/\k=m.end_ then iR e' s else Has w x
  |.act i j k=>if i=m.version/\j=m.zg/\k=m.end_ then e'.zi.toNat else Has w x
  |x=>Has w x:=by
 cases x with
 |slot i j k s=>
  simp only[Has,MB hat];by_cases q:i=m.version/\j=m.zg/\k=m.end_
  ·rw[gC q,gC q]
  ·rw[gu q,gu q]
 |act i j k=>
  simp only[Has,MB hat];by_cases q:i=m.version/\j=m.zg/\k=m.end_
  ·rw[gC q,gC q]
  ·rw[gu q,gu q]
 |fI i=>rfl
 |fX i=>simp only[Has,mE,sb]
 |lock=>rfl
def Iu(hat:iz w m v g e)(s:Int):Has w (.slot m.version m.zg m.end_ s)=iR e s:=by simp only[Has,N6 hat]
def N9(hat:iz w m v g e):Has w (.act m.version m.zg m.end_)=e.zi.toNat:=by simp only[Has,N6 hat]
def D3(hat:iz w m v g e){a b:Key->Nat}(hs:∀s,iR e' s+a (.slot m.version m.zg m.end_ s)=iR e s+b (.slot m.version m.zg m.end_ s))(ha:e'.zi.toNat+a (.act m.version m.zg m.end_)=e.zi.toNat+b (.act m.version m.zg m.end_))
 (h:∀x,(∀s,x≠.slot m.version m.zg m.end_ s)->x≠.act m.version m.zg m.end_->a x=b x):Mv w (mE w m v g e' tk) a b:=λx=>by
 rw[WE hat];cases x with
 |slot i j k s=>
  dsimp only;by_cases q:i=m.version/\j=m.zg/\k=m.end_
  ·rw[gC q];obtain⟨rfl,rfl,rfl⟩:=q;rw[Iu hat];exact hs s
  ·rw[gu q,h (.slot i j k s) (λs' z=>q (by cases z;exact⟨rfl,rfl,rfl⟩)) (λz=>nomatch z)]
 |act i j k=>
  dsimp only;by_cases q:i=m.version/\j=m.zg/\k=m.end_
  ·rw[gC q];obtain⟨rfl,rfl,rfl⟩:=q;rw[N9 hat];exact ha
  ·rw[gu q,h (.act i j k) (λs' z=>nomatch z) (λz=>q (by cases z;exact⟨rfl,rfl,rfl⟩))]
 |fI i=>dsimp only;rw[h (.fI i) (λs' z=>nomatch z) (λz=>nomatch z)]
 |fX i=>dsimp only;rw[h (.fX i) (λs' z=>nomatch z) (λz=>nomatch z)]
 |lock=>dsimp only;rw[h (.lock) (λs' z=>nomatch z) (λz=>nomatch z)]
def Oh(hat:iz w m v g e)(hl:e'.next.length=e.next.length)(hf:(Slp.qF e').1=(Slp.qF e).1)(ha:e'.zi=e.zi){a b:Key->Nat}(h:a=b):Mv w (mE w m v g e' tk) a b:=
 D3 hat (λs=>by rw[h];unfold iR;rw[hl,hf]) (by rw[h,ha]) λx _ _=>by rw[h]
def ZC(hat:iz w m v g e)(hl:e'.next.length=e.next.length){s:Int}(h0:0<=s)(h1:s<e.next.length)(hf:(Slp.qF e).1=s::(Slp.qF e').1)(hn:s∉(Slp.qF e').1)(ha:e'.zi=e.zi)(l:Int):Mv w (mE w m v g e' tk) (qh 1 m.version m.zg m.end_ s l) (qh 2 m.version m.zg m.end_ s l):=by
 refine D3 hat (λt=>?_) (by simp[qh,ha]) λx q1 q2=>?_
 ·unfold iR;rw[hl,hf];simp only[qh,rk,eh];by_cases q:s=t
  ·subst q;simp[h0,h1,hn]
  ·have q':¬t=s:=λz=>q z.symm
   simp[q,q']
 ·cases x with
  |slot i j k t=>
   simp only[qh];rw[gu aj,gu (λz=>q1 t (by rw[z.2.1,z.2.2.1,z.2.2.2.1]))]
  |act i j k=>simp[qh]
  |fI i=>simp[qh]
  |fX i=>simp[qh]
  |lock=>simp[qh]
def XX(hat:iz w m v g e)(hl:e'.next.length=e.next.length){s:Int}(h0:0<=s)(h1:s<e.next.length)(hf:(Slp.qF e').1=s::(Slp.qF e).1)(hn:s∉(Slp.qF e).1)(ha:e'.zi=e.zi)(l:Int):Mv w (mE w m v g e' tk) (qh 3 m.version m.zg m.end_ s l) (qh 4 m.version m.zg m.end_ s l):=by
 refine D3 hat (λt=>?_) (by simp[qh,ha]) λx q1 q2=>?_
 ·unfold iR;rw[hl,hf];simp only[qh,rk,eh];by_cases q:s=t
  ·subst q;simp[h0,h1,hn]
  ·have q':¬t=s:=λz=>q z.symm
   simp[q,q']
 ·cases x with
  |slot i j k t=>
   simp only[qh];rw[gu (λz=>q1 t (by rw[z.2.1,z.2.2.1,z.2.2.2.1])),gu aj]
  |act i j k=>simp[qh]
  |fI i=>simp[qh]
  |fX i=>simp[qh]
  |lock=>simp[qh]
def XW(hat:iz w m v g e)(hl:e'.next.length=e.next.length)(hf:(Slp.qF e').1=(Slp.qF e).1)(h0:0<=e.zi)(ha:e'.zi=e.zi+1)(s l:Int):Mv w (mE w m v g e' tk) (qh 2 m.version m.zg m.end_ s l) (qh 3 m.version m.zg m.end_ s l):=by
 refine D3 hat (λt=>by unfold iR;rw[hl,hf];simp[qh]) (by simp[qh,ha];omega) λx q1 q2=>?_
 cases x with
 |slot i j k t=>simp[qh]
 |act i j k=>
  simp only[qh];rw[gu aj,gu (λz=>q2 (by rw[z.2.1,z.2.2.1,z.2.2.2]))]
 |fI i=>simp[qh]
 |fX i=>simp[qh]
 |lock=>simp[qh]
def XU(hat:iz w m v g e)(hl:e'.next.length=e.next.length)(hf:(Slp.qF e').1=(Slp.qF e).1)(h0:1<=e.zi)(ha:e'.zi=e.zi-1)(s l:Int):Mv w (mE w m v g e' tk) (qh 4 m.version m.zg m.end_ s l) (qh 1 m.version m.zg m.end_ s l):=by
 refine D3 hat (λt=>by unfold iR;rw[hl,hf];simp[qh]) (by simp[qh,ha];omega) λx q1 q2=>?_
 cases x with
 |slot i j k t=>simp[qh]
 |act i j k=>
  simp only[qh];rw[gu (λz=>q2 (by rw[z.2.1,z.2.2.1,z.2.2.2])),gu aj]
 |fI i=>simp[qh]
 |fX i=>simp[qh]
 |lock=>simp[qh]
end
def Jk{w:Wor}{i:Int}{x y:fQ}(hi:0<=i)(hx:w.zd[i.toNat]?=some x){a b:Key->Nat}(h0:y.zi.toNat+a (.fI i)=x.zi.toNat+b (.fI i))(h:∀k,k≠.fI i->a k=b k):Mv w { w with zd:=w.zd.set i.toNat y } a b:=λk=>by
 cases k with
 |fI n=>
  by_cases q:n=i
  ·subst q;simp only[Has];rw[gC hi,gC hi,gD (gm.1 hx).1,hx];exact h0
  ·rw[h (.fI n) (λz=>q (by cases z;rfl))];simp only[Has];by_cases n0:0<=n
   ·rw[gC n0,gC n0,pq aw]
   ·rw[gu n0,gu n0]
 |slot a' b' c s=>rw[h (.slot a' b' c s) (λz=>nomatch z)];rfl
 |act a' b' c=>rw[h (.act a' b' c) (λz=>nomatch z)];rfl
 |fX n=>rw[h (.fX n) (λz=>nomatch z)];rfl
 |lock=>rw[h .lock (λz=>nomatch z)];rfl
def XJ{w:Wor}{i:Int}{x y:fQ}(hi:0<=i)(hx:w.zd[i.toNat]?=some x)(h0:0<=x.zi)(hy:y.zi=x.zi+1)(a b c d a' b' c' d' l:Int):Mv w { w with zd:=w.zd.set i.toNat y } (qh 0 a b c d l) (qh 1 a' b' c' d' i):=by
 refine Jk hi hx (by simp[qh];omega) λk q=>?_
 cases k with
 |fI n=>simp only[qh];rw[gu aj,gu (λz=>q (by rw[z.2]))]
 |slot a' b' c s=>simp[qh]
 |act a' b' c=>simp[qh]
 |fX n=>simp[qh]
 |lock=>simp[qh]
def NJ{w:Wor}{i:Int}{x y:fQ}(hi:0<=i)(hx:w.zd[i.toNat]?=some x)(h0:1<=x.zi)(hy:y.zi=x.zi-1)(a b c d a' b' c' d' l:Int):Mv w { w with zd:=w.zd.set i.toNat y } (qh 1 a b c d i) (qh 0 a' b' c' d' l):=by
 refine Jk hi hx (by simp[qh];omega) λk q=>?_
 cases k with
 |fI n=>simp only[qh];rw[gu (λz=>q (by rw[z.2])),gu aj]
 |slot a' b' c s=>simp[qh]
 |act a' b' c=>simp[qh]
 |fX n=>simp[qh]
 |lock=>simp[qh]
def LP{w:Wor}{i:Int}{x y:fQ}(hi:0<=i)(hx:w.zd[i.toNat]?=some x)(hy:y.zi=x.zi){a b:Key->Nat}(h:a=b):Mv w { w with zd:=w.zd.set i.toNat y } a b:=
 Jk hi hx (by rw[h,hy]) λ_ _=>by rw[h]
def kI{m m':fq}(h:ph m=0)(h':ph m'=0):j6 m=j6 m':=by
 funext x
 rw[jE h,jE h',kR,kR]
def wQ{m m':fq}(h:ph m=1)(h':ph m'=1)(hl:m'.listen=m.listen):j6 m=j6 m':=by
 rw[jE h,jE h',hl];exact ZK ..
def CS{p:Nat}{m m':fq}(h:ph m=p)(h':ph m'=p)(h1:m'.version=m.version)(h2:m'.zg=m.zg)(h3:m'.end_=m.end_)(h4:m'.slot=m.slot)(h5:m'.listen=m.listen):j6 m=j6 m':=by
 rw[jE h,jE h',h1,h2,h3,h4,h5]
def zxK{m m':fq}(h:ph m=5)(h':ph m'=5)(hl:m'.version=m.version):j6 m=j6 m':=by
 rw[jE h,jE h',hl];exact ZL ..
def kJ{m m':fq}(h:ph m=6)(h':ph m'=6):j6 m=j6 m':=by
 rw[jE h,jE h'];exact ZM ..
def oL{w w':Wor}{m m':fq}{p p':Nat}(h:ph m=p)(h':ph m'=p')(x:Mv w w' (qh p m.version m.zg m.end_ m.slot m.listen) (qh p' m'.version m'.zg m'.end_ m'.slot m'.listen)):Mv w w' (j6 m) (j6 m'):=by
 rw[jE h,jE h'];exact x
def mK(e:En):Int:=e.head / 4294967296
def AV(N:Nat)(e:En):Prop:=mK e<=N/\∀x∈e.next, -1<=x/\x<=3
def Tg(N:Nat)(w:Wor):Prop:=∀v∈w.ze,∀g∈v.zm,∀e∈g.ends,AV N e
def Tg.mono{N N':Nat}{w:Wor}(h:Tg N w)(hN:N<=N'):Tg N' w:=λv hv g hg e he=>⟨by have:=(h v hv g hg e he).1;omega,(h v hv g hg e he).2⟩
structure BW(e e':En)(o:Int->Nat):Prop where
 len:e'.next.length=e.next.length
 tag:mK e<=mK e'
 head:mK e'=mK e->e'.head=e.head
 next:∀s,0<=s->o s=0->e'.next[s.toNat]?=e.next[s.toNat]?
def BW.refl(e:En)(o:Int->Nat):BW e e o:=⟨rfl,gY _,λ_=>rfl,λ_ _ _=>rfl⟩
structure CP(g g':Gr)(o:Nat->Int->Nat):Prop where
 len:g'.ends.length=g.ends.length
 ends : ∀(k : Nat) e e', g.ends[k]? = some e -> g'.ends[k]? = some e' -> BW e e' (o k)
def CP.refl(g:Gr)(o:Nat->Int->Nat):CP g g o:=⟨rfl,λk e e' h h'=>by rw[h]at h';cases h';exact BW.refl e _⟩
structure AG(v v':fB)(o:Nat->Nat->Int->Nat):Prop where
 snap:v'.snap=v.snap
 len:v'.zm.length=v.zm.length
 As:∀(j:Nat) g g',v.zm[j]?=some g->v'.zm[j]?=some g'->CP g g' (o j)
def AG.refl(v:fB)(o:Nat->Nat->Int->Nat):AG v v o:=⟨rfl,rfl,λj g g' h h'=>by rw[h]at h';cases h';exact CP.refl g _⟩
structure jL(w w':Wor)(o:Key->Nat):Prop where
 zr:w.zr<=w'.zr
 pins:w'.pins.length=w.pins.length
 counts:w'.counts.length=w.counts.length
 lu:w.ze.length<=w'.ze.length
 fX:∀(i:Nat) v v',w.ze[i]?=some v->w'.ze[i]?=some v'->AG v v' λj k s=>o (.slot i j k s)
 fI:w'.zd.length=w.zd.length
 kW:∀(i:Nat) l l',w.zd[i]?=some l->w'.zd[i]?=some l'->l'.name=l.name/\(l.drain=true->l'.drain=true)
 lj:w.zu.length<=w'.zu.length
 zu:∀(i:Nat) r r',w.zu[i]?=some r->w'.zu[i]?=some r'->r'.version=r.version/\r'.at_=r.at_/\(o .lock=0->r'.gone=r.gone)
def jz{α:Type}{l:List α}{i:Nat}{x y:α}(h:l[i]?=some x)(h':l[i]?=some y):y=x:=by rw[h]at h';cases h';rfl
def x9{w w':Wor}{o:Key->Nat}(h0:w.zr<=w'.zr)(h1:w'.pins.length=w.pins.length)(h2:w'.counts.length=w.counts.length)(h3:w'.ze=w.ze)(h4:w'.zd=w.zd)(h5:w'.zu=w.zu):jL w w' o:=by
 refine⟨h0,h1,h2,by rw[h3];exact gJ _,λi v v' h h'=>?_,by rw[h4],λi l l' h h'=>?_,by rw[h5];exact gJ _,λi r r' h h'=>?_⟩
 ·rw[h3]at h';rw[jz h h'];exact AG.refl v _
 ·rw[h4]at h';rw[jz h h'];exact⟨rfl,id⟩
 ·rw[h5]at h';rw[jz h h'];exact dY
def jL.refl(w:Wor)(o:Key->Nat):jL w w o:=x9 (gY _) rfl rfl rfl rfl rfl
def wv{w:Wor}{m:fq}{v:fB}{g:Gr}{e e':En}{tk:Int}{o:Key->Nat}(hat:iz w m v g e)(h:BW e e' λs=>o (.slot m.version m.zg m.end_ s)):jL w (mE w m v g e' tk) o:=by
 have p1:=hat.v0;have p2:=hat.g0;have p3:=hat.e0;refine⟨gY _,rfl,rfl,by show _<=(w.ze.set _ _).length;rw[sb];exact gJ _,λi v1 v2 h1 h2=>?_,rfl,λi l l' h1 h2=>?_,gJ _,λi r r' h1 h2=>?_⟩
 ·rcases x7 h2 with⟨rfl,rfl,_⟩|⟨_,h2⟩
  ·rw[jz hat.at_ h1];refine⟨rfl,aj,λj g1 g2 h3 h4=>?_⟩;rcases x7 h4 with⟨rfl,rfl,_⟩|⟨_,h4⟩
   ·rw[jz hat.fR h3];refine⟨aj,λk e1 e2 h5 h6=>?_⟩;rcases x7 h6 with⟨rfl,rfl,_⟩|⟨_,h6⟩
    ·rw[jz hat.ia h5,rQ p1,rQ p2,rQ p3];exact h
    ·rw[jz h5 h6];exact BW.refl e1 _
   ·rw[jz h3 h4];exact CP.refl g1 _
  ·rw[jz h1 h2];exact AG.refl v1 _
 ·rw[jz h1 h2];exact⟨rfl,id⟩
 ·rw[jz h1 h2];exact dY
def DE{w:Wor}{i:Nat}{x y:fQ}{o:Key->Nat}(hx:w.zd[i]?=some x)(hn:y.name=x.name)(hd:x.drain=true->y.drain=true):jL w { w with zd:=w.zd.set i y } o:=by
 refine⟨gY _,rfl,rfl,gJ _,λi v1 v2 h1 h2=>?_,aj,λj l l' h1 h2=>?_,gJ _,λi r r' h1 h2=>?_⟩
 ·rw[jz h1 h2];exact AG.refl v1 _
 ·rcases x7 h2 with⟨rfl,rfl,_⟩|⟨_,h2⟩
  ·rw[jz hx h1];exact⟨hn,hd⟩
  ·rw[jz h1 h2];exact⟨rfl,id⟩
 ·rw[jz h1 h2];exact dY
def Nu{α:Type}{l l2:List α}{i:Nat}{x y:α}(h:l[i]?=some x)(h':(l++l2)[i]?=some y):y=x:=by
 rw[gG (gm.1 h).1]at h';exact jz h h'
def We{w:Wor}{v:fB}{n:Int}{o:Key->Nat}:jL w { w with current:=n,ze:=w.ze++[v] } o:=by
 refine⟨gY _,rfl,rfl,aj,λi v1 v2 h1 h2=>?_,rfl,λi l l' h1 h2=>?_,gJ _,λi r r' h1 h2=>?_⟩
 ·rw[Nu h1 h2];exact AG.refl v1 _
 ·rw[jz h1 h2];exact⟨rfl,id⟩
 ·rw[jz h1 h2];exact dY
def XG{w:Wor}{x:fT}{o:Key->Nat}:jL w { w with zu:=w.zu++[x] } o:=by
 refine⟨gY _,rfl,rfl,gJ _,λi v1 v2 h1 h2=>?_,rfl,λi l l' h1 h2=>?_,aj,λi r r' h1 h2=>?_⟩
 ·rw[jz h1 h2];exact AG.refl v1 _
 ·rw[jz h1 h2];exact⟨rfl,id⟩
 ·rw[Nu h1 h2];exact dY
def Uq{w:Wor}{i k:Nat}{v:fB}{x:fT}{o:Key->Nat}(ho:o .lock=1)(hv:w.ze[k]?=some v)(hx:w.zu[i]?=some x):jL w { w with ze:=w.ze.set k (AD v),zu:=w.zu.set i (wN x) } o:=by
 refine⟨gY _,rfl,rfl,aj,λj v1 v2 h1 h2=>?_,rfl,λi l l' h1 h2=>?_,aj,λj r r' h1 h2=>?_⟩
 ·rcases x7 h2 with⟨rfl,rfl,_⟩|⟨_,h2⟩
  ·rw[jz hv h1];exact⟨rfl,rfl,λj g g' h3 h4=>by rw[jz h3 (show v.zm[j]?=some g' from h4)];exact CP.refl g _⟩
  ·rw[jz h1 h2];exact AG.refl v1 _
 ·rw[jz h1 h2];exact⟨rfl,id⟩
 ·rcases x7 h2 with⟨rfl,rfl,_⟩|⟨_,h2⟩
  ·rw[jz hx h1];exact⟨rfl,rfl,λz=>by omega⟩
  ·rw[jz h1 h2];exact dY
structure iJ(w:Wor)(m:fq)(v:fB)(g:Gr)(e:En):Prop where
 pc:(0<=m.pc/\m.pc<=12)\/(20<=m.pc/\m.pc<=23)
 ep:m.pc=1\/m.pc=2->0<=m.zr/\m.zr<=w.zr
 fI:(4<=m.pc/\m.pc<=12)\/m.pc=22->0<=m.listen
 early:4<=m.pc/\m.pc<=5->m.zg=0/\m.end_=0/\m.other=0
 fL:4<=m.pc/\m.pc<=8->m.slot=0
 draw:m.pc=6->∃c,v.snap.zk[m.zg.toNat]?=some c/\(ft c).length≠0
 slot:m.pc=10\/m.pc=11->m.slot=zD m.word/\m.word / 4294967296<=mK e
 link:m.pc=11->e.head=m.word->e.next[m.slot.toNat]?=some m.link
 mB:20<=m.pc->1<=m.answer.kind/\m.answer.kind<=5/\(m.answer.kind=1->m.answer=km m/\0<=m.listen)
 kind:m.pc=22->m.answer.kind≠1
structure GO(w:Wor)(m:fq)(v:fB)(g:Gr)(e:En):Prop where
 pc:(0<=m.pc/\m.pc<=4)\/m.pc=9
 fI:m.pc<=4->0<=m.listen
 tag:m.pc=1\/m.pc=2->m.word / 4294967296<=mK e/\zD m.word<=3
 next:m.pc=2->e.next[m.slot.toNat]?=some (zD m.word)
structure GP(w:Wor)(m:fq)(v:fB)(g:Gr)(e:En):Prop where
 pc:0<=m.pc/\m.pc<=2
 ep:m.pc=2->0<=m.zr/\m.zr<=w.zr
structure EK(w:Wor)(m:fq)(v:fB)(g:Gr)(e:En):Prop where
 pc:(0<=m.pc/\m.pc<=6)\/(8<=m.pc/\m.pc<=10)
 ny:m.pc=2->m.i<w.pins.length
 lj:m.pc=5\/m.pc=6->∃r,w.zu[m.i.toNat]?=some r/\r.version=m.version/\r.gone=false
 act:m.pc=5->m.k<(yv v).length
 fI:m.pc=9\/m.pc=10->∃l,w.zd[m.i.toNat]?=some l/\l.drain=true
structure Dg(w:Wor)(m:fq)(v:fB)(g:Gr)(e:En):Prop where
 pc:m.pc=0
 k:m.k<6
 i:m.i<w.counts.length
def Lc(w:Wor)(m:fq)(v:fB)(g:Gr)(e:En):Prop:=(m.op.kind=1/\iJ w m v g e)\/(m.op.kind=2/\GO w m v g e)\/(m.op.kind=3/\GP w m v g e)\/(m.op.kind=4/\m.pc=0)\/(m.op.kind=5/\EK w m v g e)\/(m.op.kind=6/\Dg w m v g e)
def mb(m:fq):Prop:=1<=m.answer.kind/\m.answer.kind<=5/\(m.answer.kind=1->m.answer=km m/\0<=m.listen)
abbrev OS(m:fq):fF:=⟨6,m.version,m.zg,m.end_,m.slot,m.listen,0,⟨0,0,0,0,0,0⟩⟩
def J9(m:fq):Prop:=m.answer=OS m/\m.pc=4\/m.answer=mq 7/\m.pc=9
def BD(m:fq):Prop:=7<=m.answer.kind/\m.answer.kind<=13
def GN(m:fq):Prop:=(m.op.kind=1/\mb m)\/(m.op.kind=2/\J9 m)\/(3<=m.op.kind/\m.op.kind<=6/\BD m)
structure Nc(N K:Nat)(w:Wor)(m:fq)(L:Wor->fq->fB->Gr->En->Prop)(F:fq->Prop)(r:Wor×fq×fx):Prop where
 ev:r.2.2.access≠0
 st:St (N+1) (K+1) r.1
 tg:Tg (N+1) r.1
 tm:iB r.2.1
 op:r.2.1.op=m.op
 th:r.2.1.zf=m.zf
 keep:jL w r.1 (j6 m)
 mv:Mv w r.1 (j6 m) (j6 r.2.1)
 go:(r.2.1.done=true/\F r.2.1)\/∃v g e,qP r.1 r.2.1 v g e/\L r.1 r.2.1 v g e
def CD{N:Nat}{w:Wor}{m:fq}{v:fB}{g:Gr}{e e':En}{tk:Int}(h:Tg N w)(hat:iz w m v g e)(h':AV N e'):Tg N (mE w m v g e' tk):=λv2 hv g2 hg e2 he=>by
 have mv:=gA hat.at_;have mg:=gA hat.fR;rcases mem_set hv with hv|rfl
 ·exact h v2 hv g2 hg e2 he
 ·rcases mem_set hg with hg|rfl
  ·exact h v mv g2 hg e2 he
  ·rcases mem_set he with he|rfl
   ·exact h v mv g mg e2 he
   ·exact h'
def CW{N:Nat}{w:Wor}{m:fq}{v:fB}{g:Gr}{e:En}(h:Tg N w)(hat:iz w m v g e):AV N e:=h v (gA hat.at_) g (gA hat.fR) e (gA hat.ia)
section
variable {N K:Nat} {w:Wor} {m:fq} {v:fB} {g:Gr} {e:En}
def Zq(st:St N K w)(tg:Tg N w)(su:qP w m v g e)(tm:iB m)(lo:iJ w m v g e)(hk:m.op.kind=1)(h3:m.pc<3):∃r,z8 w m v g e=some r/\Nc N K w m iJ mb r:=by
 have gw:=st.jQ;have ge:=qq.1 gw.ground;have hep:=ge.zr;have st1:St (N+1) (K+1) w:=st.mono aw aw;have tg1:=tg.mono (rm N);have lp:=lo.pc;unfold z8;rw[gC h3];unfold oT;rcases(by omega:m.pc=0\/m.pc=1\/m.pc=2) with p|p|p
 ·rw[gC p];exact zT rfl ⟨uX,st1,tg1,uO,rfl,rfl,jL.refl w _,qn w (kI (fY su.done hk uM) (fY su.done hk uM)),.inr ⟨v,g,e,uQ,⟨uL,λ_=>⟨hep.1,gY _⟩,uK,uK,uK,uK,uK,uK,uK,uK⟩⟩⟩
 ·have he:=lo.ep (.inl p);have hw:IntKind.i64.wrap (m.zr+1)=m.zr+1:=qd aw aw;rw[gu aw,gC p,hw];have sp:=st1.ny m.zf.toNat (p:=m.zr+1) aw aw
  exact zT rfl ⟨tT,sp,tg1,uO,rfl,rfl,x9 (gY _) aj rfl rfl rfl rfl,Cy rfl rfl rfl rfl rfl (kI (fY su.done hk uM) (fY su.done hk uM)),.inr ⟨v,g,e,⟨qD.2 sp.jQ,aq su.zf,su.done,su.version,su.ij,su.zg,su.fR,su.end_,su.ia,su.other,su.slot,su.listen,su.i,su.k⟩,
   ⟨uL,λ_=>he,uK,uK,uK,uK,uK,uK,uK,uK⟩⟩⟩
 ·rw[gu aw,gu aw,gC p];by_cases q:w.zr=m.zr
  ·rw[gC q];exact zT rfl ⟨uX,st1,tg1,uO,rfl,rfl,jL.refl w _,qn w (kI (fY su.done hk uM) (fY su.done hk uM)),.inr ⟨v,g,e,uQ,⟨uL,uK,uK,uK,uK,uK,uK,uK,uK,uK⟩⟩⟩
  ·rw[gu q];exact zT rfl ⟨uX,st1,tg1,uO,rfl,rfl,jL.refl w _,qn w (kI (fY su.done hk uM) (fY su.done hk uM)),.inr ⟨v,g,e,uQ,⟨uL,λ_=>⟨hep.1,gY _⟩,uK,uK,uK,uK,uK,uK,uK,uK⟩⟩⟩
def ZN(st:St N K w)(tg:Tg N w)(su:qP w m v g e)(tm:iB m)(lo:iJ w m v g e)(hk:m.op.kind=1)(hN:N<=100000000)(p:m.pc=3):∃r,z8 w m v g e=some r/\Nc N K w m iJ mb r:=by
 have gw:=st.jQ;have st1:St (N+1) (K+1) w:=st.mono aw aw;have tg1:=tg.mono (rm N);have pr:=Ln w.zd m.op.listen;have hl:=st.ty.fI;have cu:=gw.current;obtain⟨v',hv'⟩:∃v',w.ze[w.current.toNat]?=some v':=⟨_,gp aw⟩;have gv:=(gw.fX _ v' hv').1;have h0:0<v'.zm.length:=aE
 obtain⟨g',e',hg,he,l1,l2⟩:=Cq gv h0;unfold z8;rw[gu aw,gC p];by_cases q:zM w.zd m.op.listen<0
 ·rw[gC q];refine zT rfl ⟨uX,st1,tg1,⟨aJ,tm.word,tm.link,tm.host,tm.path,tm.d0,tm.d1,tm.cfg,(λh=>absurd ((show m.op.kind=6 from h).symm.trans hk) ar)⟩,rfl,rfl,jL.refl w _,qn w (kI (fY su.done hk uM) (fY su.done hk ?_)),.inr ⟨v',g',e',⟨su.world,su.zf,su.done,cu,hv',⟨gY _,aK⟩,hg,⟨gY _,aK⟩,he,⟨gY _,aK⟩,⟨gY _,aK⟩,pr,su.i,su.k⟩,⟨uL,uK,uK,uK,uK,uK,uK,uK,λ_=>⟨by show(1:Int)<=2;decide,by show(2:Int)<=5;decide,λh=>absurd (show(2:Int)=1 from h) ar⟩,uK⟩⟩⟩;dsimp only;(repeat' split) <;> omega
 ·rw[gu q]
  exact zT rfl ⟨uX,st1,tg1,⟨aJ,tm.word,tm.link,tm.host,tm.path,tm.d0,tm.d1,tm.cfg,tm.mB⟩,rfl,rfl,jL.refl w _,qn w (kI (fY su.done hk uM) (fY su.done hk uM)),.inr ⟨v',g',e',⟨su.world,su.zf,su.done,cu,hv',⟨gY _,aK⟩,hg,⟨gY _,aK⟩,he,⟨gY _,aK⟩,⟨gY _,aK⟩,pr,su.i,su.k⟩,
   ⟨uL,uK,λ_=>by show 0<=zM w.zd m.op.listen;omega,λ_=>⟨rfl,rfl,rfl⟩,λ_=>rfl,uK,uK,uK,uK,uK⟩⟩⟩
def ZO(st:St N K w)(tg:Tg N w)(su:qP w m v g e)(tm:iB m)(lo:iJ w m v g e)(hk:m.op.kind=1)(hK:K<=1099511627776)(p:m.pc=4):∃r,z8 w m v g e=some r/\Nc N K w m iJ mb r:=by
 have gw:=st.jQ;have tg1:=tg.mono (rm N);have l0:=lo.fI (.inl aw);have sl:=su.listen;obtain⟨x,hx⟩:∃x,w.zd[m.listen.toNat]?=some x:=⟨_,gp aw⟩;have li:=FX (gw.fI _ x hx).1;have ca:=st.iN.fI x (gA hx);have hw:IntKind.i64.wrap (x.zi+1)=x.zi+1:=qd aw aw;have st2:=IL st su hx (x.zi+1) aw aw hK;unfold z8 wa;rw[gu aw,gu aw,gC p,gu aw,hx,gL];unfold OY;rw[hw]
 exact zT rfl ⟨tP,st2,tg1,uO,rfl,rfl,DE hx rfl id,oL (p:=0) (p':=1) (fY su.done hk uM) (fY su.done hk uM) (XJ l0 hx li.2.1 rfl _ _ _ _ _ _ _ _ _),.inr ⟨v,g,e,⟨qD.2 st2.jQ,su.zf,su.done,su.version,su.ij,su.zg,su.fR,su.end_,su.ia,su.other,su.slot,aq su.listen,su.i,su.k⟩,
  ⟨uL,uK,λ_=>l0,λ_=>lo.early aw,λ_=>lo.fL aw,uK,uK,uK,uK,uK⟩⟩⟩
def ZP(st:St N K w)(tg:Tg N w)(su:qP w m v g e)(tm:iB m)(lo:iJ w m v g e)(hk:m.op.kind=1)(p:m.pc=5):∃r,z8 w m v g e=some r/\Nc N K w m iJ mb r:=by
 have gw:=st.jQ;have st1:St (N+1) (K+1) w:=st.mono aw aw;have tg1:=tg.mono (rm N);have l0:=lo.fI (.inl aw);have sl:=su.listen;obtain⟨x,hx⟩:∃x,w.zd[m.listen.toNat]?=some x:=⟨_,gp aw⟩;obtain⟨z1,z2,z3⟩:=lo.early aw;have z4:=lo.fL aw;have gv:=(gw.fX _ v su.ij).1;unfold z8 wa;rw[gu aw,gu aw,gu aw,gC p,gu aw,hx,gL];cases hd:x.drain
 ·simp only[sF,if_false];obtain⟨c0,c,hc⟩:=Ng gv.snap m.op.listen m.op.host m.op.path;by_cases f:(xw m v).2=0
  ·have glt:(xw m v).1.toNat<v.zm.length:=by have:=(gm.1 hc).1;have:=gv.len;show(xg v.snap m.op.listen m.op.host m.op.path).1.toNat<_;omega
   obtain⟨g',e',hg,he,q1,q2⟩:=Cq gv glt;have c0':0<=(xw m v).1:=c0;have su':∀pc an,qP w { m with zg:=(xw m v).1,pc:=pc,answer:=an } v g' e':=λpc an=>⟨su.world,su.zf,su.done,su.version,su.ij,⟨c0',by show(xw m v).1<_;omega⟩,hg,⟨by show 0<=m.end_;omega,by show m.end_<_;omega⟩,by show g'.ends[m.end_.toNat]?=_;rw[z2];exact he,⟨by show 0<=m.other;omega,by show m.other<_;omega⟩,⟨aL,aM⟩,su.listen,su.i,su.k⟩
   by_cases d:(xG c m.op.d0 m.op.d1).2.2=0
   ·have hn:(ft c).length≠0:=by
     intro hz;unfold xG at d;rw[gC hz]at d;cases d
    by_cases po:c.xb=1
    ·rw[LF f hc d po];exact zT rfl ⟨uX,st1,tg1,uO,rfl,rfl,jL.refl w _,qn w (wQ (fY su.done hk uM) (fY su.done hk uM) rfl),.inr ⟨v,g',e',su' 6 m.answer,⟨uL,uK,λ_=>l0,uK,λ_=>z4,λ_=>⟨c,hc,hn⟩,uK,uK,uK,uK⟩⟩⟩
    ·rw[LG f hc d po];have gl:=(gv.As _ g' c hg hc).1;have dv:xG c m.op.d0 m.op.d1=(ym c m.op.d0,ym c m.op.d1,0):=by unfold xG;rw[gu hn]
     have r0:=I6 (n:=m.op.d0) hn;have r1:=I6 (n:=m.op.d1) hn;have d1:(xG c m.op.d0 m.op.d1).1=ym c m.op.d0:=by rw[dv]
     have d2:(xG c m.op.d0 m.op.d1).2.1=ym c m.op.d1:=by rw[dv]
     rw[d1,d2];have r0':0<=ym c m.op.d0/\ym c m.op.d0<c.zL.length:=r0;have r1':0<=ym c m.op.d1/\ym c m.op.d1<c.zL.length:=r1;obtain⟨e2,he2⟩:∃e2,g'.ends[(ym c m.op.d0).toNat]?=some e2:=⟨_,gp aw⟩;have n2:=((gv.lY.2 g' (gA hg)).2.2 e2 (gA he2)).2
     exact zT rfl ⟨uX,st1,tg1,uO,rfl,rfl,jL.refl w _,qn w (wQ (fY su.done hk uM) (fY su.done hk uM) rfl),.inr ⟨v,g',e2,⟨su.world,su.zf,su.done,su.version,su.ij,⟨c0',by show(xw m v).1<_;omega⟩,hg,⟨r0'.1,by show ym c m.op.d0<_;omega⟩,he2,⟨r1'.1,by show ym c m.op.d1<_;omega⟩,⟨aL,aM⟩,su.listen,su.i,su.k⟩,
      ⟨uL,uK,λ_=>l0,uK,λ_=>z4,uK,uK,uK,uK,uK⟩⟩⟩
   ·rw[Lr f hc d];exact zT rfl ⟨uX,st1,tg1,uP,rfl,rfl,jL.refl w _,qn w (wQ (fY su.done hk uM) (fY su.done hk uM) rfl),.inr ⟨v,g',e',su' 20 (mq 3),⟨uL,uK,uK,uK,uK,uK,uK,uK,λ_=>⟨by show(1:Int)<=3;decide,by show(3:Int)<=5;decide,λh=>absurd (show(3:Int)=1 from h) ar⟩,uK⟩⟩⟩
  ·rw[Mp f];exact zT rfl ⟨uX,st1,tg1,uP,rfl,rfl,jL.refl w _,qn w (wQ (fY su.done hk uM) (fY su.done hk uM) rfl),.inr ⟨v,g,e,uQ,⟨uL,uK,uK,uK,uK,uK,uK,uK,λ_=>⟨by show(1:Int)<=2;decide,by show(2:Int)<=5;decide,λh=>absurd (show(2:Int)=1 from h) ar⟩,uK⟩⟩⟩
 ·simp only[if_true];exact zT rfl ⟨uX,st1,tg1,uP,rfl,rfl,jL.refl w _,qn w (wQ (fY su.done hk uM) (fY su.done hk uM) rfl),.inr ⟨v,g,e,uQ,⟨uL,uK,uK,uK,uK,uK,uK,uK,λ_=>⟨by show(1:Int)<=5;decide,by show(5:Int)<=5;decide,λh=>absurd (show(5:Int)=1 from h) ar⟩,uK⟩⟩⟩
def ZQ(st:St N K w)(tg:Tg N w)(su:qP w m v g e)(tm:iB m)(lo:iJ w m v g e)(hk:m.op.kind=1)(p:m.pc=6):∃r,z8 w m v g e=some r/\Nc N K w m iJ mb r:=by
 have gw:=st.jQ;have tg1:=tg.mono (rm N);obtain⟨f1,f2,f3,f4,f5,f6,f7⟩:=vQ st su;have gv:=(gw.fX _ v su.ij).1;obtain⟨c,hc,hn⟩:=lo.draw p;have l0:=lo.fI (.inl aw);have z:=lo.fL aw;have gl:=(gv.As _ g c su.fR hc).1;have tr:=I6 (n:=g.zt) hn;have tv:(nB c g.zt).1=((ft c)[(g.zt%(ft c).length).toNat]?).getD 0:=by unfold nB;rw[gu hn]
 rw[<-tv]at tr;obtain⟨e2,he2⟩:∃e2,g.ends[(nB c g.zt).1.toNat]?=some e2:=⟨_,gp aw⟩;have n2:=((gv.lY.2 g (gA su.fR)).2.2 e2 (gA he2)).2;have st2:=(st.mono aw aw:St (N+1) (K+1) w).ma su.at_ (e':=qA e e.head e.zi) (tk:=IntKind.u64.wrap (g.zt+1)) f1 rfl f6 (Yu _) aN;have eset:g.ends.set m.end_.toNat (qA e e.head e.zi)=g.ends:=yn _ _ su.ia;have s1:=(gm.1 su.ij).1;have s2:=(gm.1 su.fR).1;have so:=su.other;unfold z8;rw[gu aw,gu aw,gu aw,gu aw,gC p,hc,gL]
 exact zT rfl ⟨tP,st2,CD tg1 su.at_ (e':=qA e e.head e.zi) (CW tg1 su.at_),uO,rfl,rfl,wv su.at_ (e':=qA e e.head e.zi) (BW.refl e _),Oh su.at_ (e':=qA e e.head e.zi) rfl rfl rfl (wQ (fY su.done hk uM) (fY su.done hk uM) rfl),.inr ⟨_,_,e2,⟨qD.2 st2.jQ,su.zf,su.done,aq su.version,gD s1,aq su.zg,gD s2,⟨tr.1,by show _<(((g.ends.set m.end_.toNat (qA e e.head e.zi)).length:Nat):Int);rw[eset];show(nB c g.zt).1<_;omega⟩,by show(g.ends.set m.end_.toNat (qA e e.head e.zi))[(nB c g.zt).1.toNat]?=some e2;rw[eset];exact he2,aq so,⟨aL,aM⟩,su.listen,su.i,su.k⟩,
  ⟨uL,uK,λ_=>l0,uK,uK,uK,uK,uK,uK,uK⟩⟩⟩
def ZR(st:St N K w)(tg:Tg N w)(su:qP w m v g e)(tm:iB m)(lo:iJ w m v g e)(hk:m.op.kind=1)(p:m.pc=7):∃r,z8 w m v g e=some r/\Nc N K w m iJ mb r:=by
 obtain⟨f1,f2,f3,f4,f5,f6,f7⟩:=vQ st su;have l0:=lo.fI (.inl aw);unfold z8;rw[gu aw,gu aw,gu aw,gu aw,gu aw,gC p]
 exact zT rfl ⟨uX,st.mono aw aw,tg.mono (rm N),uO,rfl,rfl,jL.refl w _,qn w (wQ (fY su.done hk uM) (fY su.done hk uM) rfl),.inr ⟨v,g,e,⟨su.world,su.zf,su.done,su.version,su.ij,su.zg,su.fR,su.end_,su.ia,su.other,su.slot,su.listen,f4,su.k⟩,
  ⟨uL,uK,λ_=>l0,uK,λ_=>lo.fL aw,uK,uK,uK,uK,uK⟩⟩⟩
def ZS(st:St N K w)(tg:Tg N w)(su:qP w m v g e)(tm:iB m)(lo:iJ w m v g e)(hk:m.op.kind=1)(p:m.pc=8):∃r,z8 w m v g e=some r/\Nc N K w m iJ mb r:=by
 have gv:=(st.jQ.fX _ v su.ij).1;have tg1:=tg.mono (rm N);have l0:=lo.fI (.inl aw);have z:=lo.fL aw;have so:=su.other;obtain⟨e2,he2⟩:∃e2,g.ends[m.other.toNat]?=some e2:=⟨_,gp aw⟩;have n2:=((gv.lY.2 g (gA su.fR)).2.2 e2 (gA he2)).2;unfold z8;rw[gu aw,gu aw,gu aw,gu aw,gu aw,gu aw,gC p,he2,gL];by_cases q:e2.zi<m.i
 ·rw[gC q]
  exact zT rfl ⟨uX,st.mono aw aw,tg1,uO,rfl,rfl,jL.refl w _,qn w (wQ (fY su.done hk uM) (fY su.done hk uM) rfl),.inr ⟨v,g,e2,⟨su.world,su.zf,su.done,su.version,su.ij,su.zg,su.fR,so,he2,so,⟨aL,aM⟩,su.listen,su.i,su.k⟩,
   ⟨uL,uK,λ_=>l0,uK,uK,uK,uK,uK,uK,uK⟩⟩⟩
 ·rw[gu q]
  exact zT rfl ⟨uX,st.mono aw aw,tg1,uO,rfl,rfl,jL.refl w _,qn w (wQ (fY su.done hk uM) (fY su.done hk uM) rfl),.inr ⟨v,g,e,uQ,
   ⟨uL,uK,λ_=>l0,uK,uK,uK,uK,uK,uK,uK⟩⟩⟩
def ZT(st:St N K w)(tg:Tg N w)(su:qP w m v g e)(tm:iB m)(lo:iJ w m v g e)(hk:m.op.kind=1)(p:m.pc=9):∃r,z8 w m v g e=some r/\Nc N K w m iJ mb r:=by
 obtain⟨f1,f2,f3,f4,f5,f6,f7⟩:=vQ st su;have tg1:=tg.mono (rm N);have l0:=lo.fI (.inl aw);unfold z8;rw[gu aw,gu aw,gu aw,gu aw,gu aw,gu aw,gu aw,gC p];by_cases q:0<=zD e.head/\zD e.head<e.next.length
 ·rw[gC q]
  exact zT rfl ⟨uX,st.mono aw aw,tg1,⟨tm.listen,f6.1,tm.link,tm.host,tm.path,tm.d0,tm.d1,tm.cfg,tm.mB⟩,rfl,rfl,jL.refl w _,qn w (wQ (fY su.done hk uM) (fY su.done hk uM) rfl),.inr ⟨v,g,e,⟨su.world,su.zf,su.done,su.version,su.ij,su.zg,su.fR,su.end_,su.ia,su.other,q,su.listen,su.i,su.k⟩,
   ⟨uL,uK,λ_=>l0,uK,uK,uK,λ_=>⟨rfl,gY _⟩,uK,uK,uK⟩⟩⟩
 ·rw[gu q];exact zT rfl ⟨uX,st.mono aw aw,tg1,⟨tm.listen,f6.1,tm.link,tm.host,tm.path,tm.d0,tm.d1,tm.cfg,(λh=>absurd ((show m.op.kind=6 from h).symm.trans hk) ar)⟩,rfl,rfl,jL.refl w _,qn w (wQ (fY su.done hk uM) (fY su.done hk uM) rfl),.inr ⟨v,g,e,uQ,⟨uL,uK,uK,uK,uK,uK,uK,uK,λ_=>⟨by show(1:Int)<=4;decide,by show(4:Int)<=5;decide,λh=>absurd (show(4:Int)=1 from h) ar⟩,uK⟩⟩⟩
def X6(f1:Slp.fP e=true){s:Int}(h0:0<=s)(h1:s<e.next.length):∃x,e.next[s.toNat]?=some x:=⟨_,gp aw⟩
def Zj(st:St N K w)(tg:Tg N w)(su:qP w m v g e)(tm:iB m)(lo:iJ w m v g e)(hk:m.op.kind=1)(p:m.pc=10):∃r,z8 w m v g e=some r/\Nc N K w m iJ mb r:=by
 obtain⟨f1,f2,f3,f4,f5,f6,f7⟩:=vQ st su;have tg1:=tg.mono (rm N);have l0:=lo.fI (.inl aw);obtain⟨z1,z2⟩:=lo.slot (.inl p);have ss:=su.slot;obtain⟨x,hx⟩:=X6 f1 ss.1 ss.2;have hb:=(CW tg su.at_).2 x (gA hx);unfold z8;rw[gu aw,gu aw,gu aw,gu aw,gu aw,gu aw,gu aw,gu aw,gC p,hx,gL]
 exact zT rfl ⟨uX,st.mono aw aw,tg1,⟨tm.listen,tm.word,by show -1<=x/\x<=2147483646;omega,tm.host,tm.path,tm.d0,tm.d1,tm.cfg,tm.mB⟩,rfl,rfl,jL.refl w _,qn w (wQ (fY su.done hk uM) (fY su.done hk uM) rfl),.inr ⟨v,g,e,uQ,
  ⟨uL,uK,λ_=>l0,uK,uK,uK,λ_=>⟨z1,z2⟩,λ_ _=>hx,uK,uK⟩⟩⟩
def S8(f1:Slp.fP e=true)(f2:e.next.length<=4):Slp.zD e<=3:=by
 by_cases h:Slp.zD e<0
 ·omega
 ·have:=(Slp.Oa f1 h).2.1;omega
def NL{x i:Int}{N:Nat}(h:x / 4294967296<=N)(hx:u64 x)(hN:N<=100000000)(h1: -1<=i)(h2:i<=2147483646):Slp.je x i / 4294967296=x / 4294967296+1:=by
 have:=Slp.Wq (x:=x) h1 h2;unfold u64 at hx;omega
def Zk(st:St N K w)(tg:Tg N w)(su:qP w m v g e)(tm:iB m)(lo:iJ w m v g e)(hk:m.op.kind=1)(hN:N<=100000000)(p:m.pc=11):∃r,z8 w m v g e=some r/\Nc N K w m iJ mb r:=by
 obtain⟨f1,f2,f3,f4,f5,f6,f7⟩:=vQ st su;have tg1:=tg.mono (rm N);have te:=CW tg su.at_;have l0:=lo.fI (.inl aw);obtain⟨z1,z2⟩:=lo.slot (.inr p);have ss:=su.slot;unfold z8;rw[gu aw,gu aw,gu aw,gu aw,gu aw,gu aw,gu aw,gu aw,gu aw,gC p];by_cases q:e.head=m.word
 ·have z3:=lo.link p q;have hh:Slp.zD e=m.slot:=by rw[z1,<-q];rfl
  have hx2:Slp.iH e.next m.slot=m.link:=by unfold Slp.iH;rw[z3];rfl
  have ct:=(Slp.HJ (Slp.Bj f1).1 aw).2.1;rw[hh,hx2]at ct;have hd:Slp.zD (qA e (Slp.je m.word m.link) e.zi)=m.link:=Slp.Hv tm.link.1 tm.link.2
  have is2:Slp.fP (qA e (Slp.je m.word m.link) e.zi)=true:=by
   unfold Slp.fP;rw[hd];simp only[gH,gQ];exact⟨⟨⟨ct,f3⟩,f2⟩,f4⟩
  have nt:=NL (i:=m.link) te.1 f6.1 hN tm.link.1 tm.link.2;rw[q]at nt;obtain⟨q1,q2⟩:=Xt f6 f1 hh ss.1 hx2;rw[q]at q1 q2;have st2:=(st.mono aw aw:St (N+1) (K+1) w).ma su.at_ (e':=qA e (Slp.je m.word m.link) e.zi) (tk:=g.zt) is2 rfl ⟨Slp.Ik tm.link.1 tm.link.2,f6.2⟩ f7 aN;rw[gC q];have ta:mK (qA e (Slp.je m.word m.link) e.zi)=mK e+1:=by unfold mK;rw[q];exact nt
  exact zT rfl ⟨aO,st2,CD tg1 su.at_ (e':=qA e (Slp.je m.word m.link) e.zi) ⟨by have:=te.1;omega,te.2⟩,uO,rfl,rfl,wv su.at_ (e':=qA e (Slp.je m.word m.link) e.zi) ⟨rfl,aw,λh=>by omega,λ_ _ _=>rfl⟩,
   oL (p:=1) (p':=2) (fY su.done hk uM) (fY su.done hk uM) (ZC su.at_ (e':=qA e (Slp.je m.word m.link) e.zi) rfl ss.1 ss.2 q1 q2 rfl m.listen),.inr ⟨_,_,_,wV (e':=qA e (Slp.je m.word m.link) e.zi) (m':={ m with pc:=12 }) su rfl st2.jQ rfl su.done rfl rfl rfl rfl rfl rfl rfl rfl,
   ⟨uL,uK,λ_=>l0,uK,uK,uK,uK,uK,uK,uK⟩⟩⟩
 ·rw[gu q]
  exact zT rfl ⟨aP,st.mono aw aw,tg1,uO,rfl,rfl,jL.refl w _,qn w (wQ (fY su.done hk uM) (fY su.done hk uM) rfl),.inr ⟨v,g,e,uQ,
   ⟨uL,uK,λ_=>l0,uK,uK,uK,uK,uK,uK,uK⟩⟩⟩
def Zl(st:St N K w)(tg:Tg N w)(su:qP w m v g e)(tm:iB m)(lo:iJ w m v g e)(hk:m.op.kind=1)(hK:K<=1099511627776)(p:m.pc=12):∃r,z8 w m v g e=some r/\Nc N K w m iJ mb r:=by
 obtain⟨f1,f2,f3,f4,f5,f6,f7⟩:=vQ st su;have tg1:=tg.mono (rm N);have l0:=lo.fI (.inl aw);have hw:IntKind.i64.wrap (e.zi+1)=e.zi+1:=qd aw aw;have st2:=(st.mono aw aw:St (N+1) (K+1) w).ma su.at_ (e':=qA e e.head (e.zi+1)) (tk:=g.zt) (Oc f1 _ aw) rfl ⟨f6.1,f6.2.1,by show i64 (e.zi+1);unfold i64;omega⟩ f7 (by show e.zi+1<=_;omega);unfold z8;rw[gu aw,gu aw,gu aw,gu aw,gu aw,gu aw,gu aw,gu aw,gu aw,gu aw,gC p,hw]
 exact zT rfl ⟨tP,st2,CD tg1 su.at_ (e':=qA e e.head (e.zi+1)) (show AV (N+1) e from CW tg1 su.at_),uP,rfl,rfl,wv su.at_ (e':=qA e e.head (e.zi+1)) ⟨rfl,gY _,λ_=>rfl,λ_ _ _=>rfl⟩,
  oL (p:=2) (p':=3) (fY su.done hk uM) (fY su.done hk uM) (XW su.at_ (e':=qA e e.head (e.zi+1)) rfl rfl f4 rfl m.slot m.listen),.inr ⟨_,_,_,wV (e':=qA e e.head (e.zi+1)) (m':={ m with answer:=km m,pc:=20 }) su rfl st2.jQ rfl su.done rfl rfl rfl rfl rfl rfl rfl rfl,
  ⟨uL,uK,uK,uK,uK,uK,uK,uK,λ_=>⟨by show(1:Int)<=1;decide,by show(1:Int)<=5;decide,λ_=>⟨rfl,l0⟩⟩,uK⟩⟩⟩
def Zm(st:St N K w)(tg:Tg N w)(su:qP w m v g e)(tm:iB m)(lo:iJ w m v g e)(hk:m.op.kind=1)(p:m.pc=20):∃r,z8 w m v g e=some r/\Nc N K w m iJ mb r:=by
 have kr:=Ur m.answer.kind;obtain⟨r2,hl,hc⟩:=LY st su (pc:=21) kr.1 kr.2;have st2:=(st.mono aw aw:St (N+1) (K+1) w).count m.zf.toNat hl;have an:=lo.mB aw
 have ow:j6 m=j6 { m with pc:=21 }:=by
  by_cases k1:m.answer.kind=1
  ·exact CS (p:=3) (fY su.done hk uM) (fY su.done hk uM) rfl rfl rfl rfl rfl
  ·by_cases k2:0<=m.listen
   ·exact wQ (fY su.done hk uM) (fY su.done hk uM) rfl
   ·exact kI (fY su.done hk uM) (fY su.done hk uM)
 unfold z8;rw[gu aw,gu aw,gu aw,gu aw,gu aw,gu aw,gu aw,gu aw,gu aw,gu aw,gu aw,gC p,hc]
 exact zT rfl ⟨tP,st2,tg.mono (rm N),uO,rfl,rfl,x9 (gY _) rfl aj rfl rfl rfl,Cy rfl rfl rfl rfl rfl ow,.inr ⟨v,g,e,⟨qD.2 st2.jQ,su.zf,su.done,su.version,su.ij,su.zg,su.fR,su.end_,su.ia,su.other,su.slot,su.listen,su.i,su.k⟩,
  ⟨uL,uK,uK,uK,uK,uK,uK,uK,λ_=>an,uK⟩⟩⟩
def Zn(st:St N K w)(tg:Tg N w)(su:qP w m v g e)(tm:iB m)(lo:iJ w m v g e)(hk:m.op.kind=1)(p:m.pc=21):∃r,z8 w m v g e=some r/\Nc N K w m iJ mb r:=by
 obtain⟨r2,hl,hc⟩:=LY st su (k:=0) (pc:=if m.answer.kind=1\/m.listen<0 then 23 else 22) ar ar;have st2:=(st.mono aw aw:St (N+1) (K+1) w).count m.zf.toNat hl;have an:=lo.mB aw;unfold z8;rw[gu aw,gu aw,gu aw,gu aw,gu aw,gu aw,gu aw,gu aw,gu aw,gu aw,gu aw,gu aw,gC p,hc];by_cases q:m.answer.kind=1\/m.listen<0
 ·rw[gC q]
  have ow:j6 m=j6 { m with pc:=23 }:=by
   by_cases k1:m.answer.kind=1
   ·exact CS (p:=3) (fY su.done hk uM) (fY su.done hk uM) rfl rfl rfl rfl rfl
   ·exact kI (fY su.done hk uM) (fY su.done hk uM)
  exact zT rfl ⟨tP,st2,tg.mono (rm N),uO,rfl,rfl,x9 (gY _) rfl aj rfl rfl rfl,Cy rfl rfl rfl rfl rfl ow,.inr ⟨v,g,e,⟨qD.2 st2.jQ,su.zf,su.done,su.version,su.ij,su.zg,su.fR,su.end_,su.ia,su.other,su.slot,su.listen,su.i,su.k⟩,
   ⟨uL,uK,uK,uK,uK,uK,uK,uK,λ_=>an,uK⟩⟩⟩
 ·rw[gu q]
  exact zT rfl ⟨tP,st2,tg.mono (rm N),uO,rfl,rfl,x9 (gY _) rfl aj rfl rfl rfl,Cy rfl rfl rfl rfl rfl (wQ (fY su.done hk uM) (fY su.done hk uM) rfl),.inr ⟨v,g,e,⟨qD.2 st2.jQ,su.zf,su.done,su.version,su.ij,su.zg,su.fR,su.end_,su.ia,su.other,su.slot,su.listen,su.i,su.k⟩,
   ⟨uL,uK,λ_=>by show 0<=m.listen;omega,uK,uK,uK,uK,uK,λ_=>an,λ_ h=>q (.inl h)⟩⟩⟩
def D0(ow:∀x,j6 m x<=Has w x){p:Nat}(h:ph m=p)(x:Key)(hx:1<=qh p m.version m.zg m.end_ m.slot m.listen x):1<=Has w x:=by
 have:=ow x;rw[jE h]at this;omega
def M0(ow:∀x,j6 m x<=Has w x){p:Nat}(h:ph m=p)(hp:1<=p/\p<=4):0<=m.listen/\∃x,w.zd[m.listen.toNat]?=some x/\1<=x.zi:=by
 have:=D0 ow h (.fI m.listen) (by simp[qh,hp]);simp only[Has]at this;split at this
 ·rename_i q;split at this
  ·rename_i x hx;exact⟨q,x,hx,aw⟩
  ·omega
 ·omega
def Zo(st:St N K w)(tg:Tg N w)(su:qP w m v g e)(tm:iB m)(lo:iJ w m v g e)(hk:m.op.kind=1)(hK:K<=1099511627776)(ow:∀x,j6 m x<=Has w x)(p:m.pc=22):∃r,z8 w m v g e=some r/\Nc N K w m iJ mb r:=by
 have l0:=lo.fI (.inr p);have k1:=lo.kind p;have p1:ph m=1:=(fY su.done hk uM);obtain⟨_,x,hx,x1⟩:=M0 ow p1 ar;have ca:=st.iN.fI x (gA hx);have hw:IntKind.i64.wrap (x.zi-1)=x.zi-1:=qd aw aw;have st2:=IL st su hx (x.zi-1) aw aw hK;have an:=lo.mB aw;unfold z8 wa;rw[gu aw,gu aw,gu aw,gu aw,gu aw,gu aw,gu aw,gu aw,gu aw,gu aw,gu aw,gu aw,gu aw,gC p,gu aw,hx,gL];unfold Bn;rw[hw]
 exact zT rfl ⟨tP,st2,tg.mono (rm N),uO,rfl,rfl,DE hx rfl id,oL (p:=1) (p':=0) p1 (fY su.done hk uM) (NJ l0 hx x1 rfl _ _ _ _ _ _ _ _ _),.inr ⟨v,g,e,⟨qD.2 st2.jQ,su.zf,su.done,su.version,su.ij,su.zg,su.fR,su.end_,su.ia,su.other,su.slot,aq su.listen,su.i,su.k⟩,
  ⟨uL,uK,uK,uK,uK,uK,uK,uK,λ_=>an,uK⟩⟩⟩
def Zp(st:St N K w)(tg:Tg N w)(su:qP w m v g e)(tm:iB m)(lo:iJ w m v g e)(hk:m.op.kind=1)(p:m.pc=23):∃r,z8 w m v g e=some r/\Nc N K w m iJ mb r:=by
 have ep:=(qq.1 st.jQ.ground).zr;have st2:=(st.mono aw aw:St (N+1) (K+1) w).ny m.zf.toNat (p:=0) aw aw;have an:=lo.mB aw
 have ow:j6 m=j6 { m with done:=true }:=by
  by_cases k1:m.answer.kind=1
  ·exact CS (p:=3) (fY su.done hk uM) (Mk rfl hk k1) rfl rfl rfl rfl rfl
  ·exact kI (fY su.done hk uM) (yK rfl (λh=>k1 h.2))
 unfold z8;rw[gu aw,gu aw,gu aw,gu aw,gu aw,gu aw,gu aw,gu aw,gu aw,gu aw,gu aw,gu aw,gu aw,gu aw,gC p];exact zT rfl ⟨tT,st2,tg.mono (rm N),uP,rfl,rfl,x9 (gY _) aj rfl rfl rfl rfl,Cy rfl rfl rfl rfl rfl ow,.inl ⟨rfl,an⟩⟩
def T8(st:St N K w)(tg:Tg N w)(su:qP w m v g e)(tm:iB m)(lo:iJ w m v g e)(hk:m.op.kind=1)(hN:N<=100000000)(hK:K<=1099511627776)(ow:∀x,j6 m x<=Has w x):∃r,z8 w m v g e=some r/\Nc N K w m iJ mb r:=by
 have pc:=lo.pc;by_cases h3:m.pc<3
 ·exact Zq st tg su tm lo hk h3
 rcases(by omega:m.pc=3\/m.pc=4\/m.pc=5\/m.pc=6\/m.pc=7\/m.pc=8\/m.pc=9\/m.pc=10\/m.pc=11\/m.pc=12\/m.pc=20\/m.pc=21\/m.pc=22\/m.pc=23) with p|p|p|p|p|p|p|p|p|p|p|p|p|p
 ·exact ZN st tg su tm lo hk hN p
 ·exact ZO st tg su tm lo hk hK p
 ·exact ZP st tg su tm lo hk p
 ·exact ZQ st tg su tm lo hk p
 ·exact ZR st tg su tm lo hk p
 ·exact ZS st tg su tm lo hk p
 ·exact ZT st tg su tm lo hk p
 ·exact Zj st tg su tm lo hk p
 ·exact Zk st tg su tm lo hk hN p
 ·exact Zl st tg su tm lo hk hK p
 ·exact Zm st tg su tm lo hk p
 ·exact Zn st tg su tm lo hk p
 ·exact Zo st tg su tm lo hk hK ow p
 ·exact Zp st tg su tm lo hk p
end
end Go.Wor
