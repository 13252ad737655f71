import Derived.Test.YtllehbdigpdinaaGreatS1
set_option linter.all false
set_option maxRecDepth 100000
set_option maxHeartbeats 4000000
namespace Go.Wor
open Go.Ab Go.Proofs Tryz Go.Hy Go.Gat Go.Nam Go.Hos Go.Con Go.Sna
inductive Key
 |slot (i j k s:Int)
 |act (i j k:Int)
 |fi (i:Int)
 |fI (i:Int)
 |lock
def ph(m:eR):Nat:=
 if m.done=true then (if m.op.kind=1/\m.answer.kind=1 then 3 else 0)
 else if m.op.kind=1 then (if 5<=m.pc/\m.pc<=11 then 1 else if m.pc=12 then 2 else if 20<=m.pc then (if m.answer.kind=1 then 3 else if m.pc<=22/\0<=m.listen then 1 else 0) else 0)
 else if m.op.kind=2 then (if m.pc<=2 then 3 else if m.pc=3 then 4 else if m.pc=4 then 1 else 0)
 else if m.op.kind=3 then (if 1<=m.pc then 5 else 0)
 else if m.op.kind=5 then (if 1<=m.pc then 6 else 0)
 else 0
def qe(p:Nat)(i j k s l:Int):Key->Nat
 |.slot i' j' k' s'=>if (p=2\/p=3)/\i=i'/\j=j'/\k=k'/\s=s' then 1 else 0
 |.act i' j' k'=>if (p=3\/p=4)/\i=i'/\j=j'/\k=k' then 1 else 0
 |.fi l'=>if (1<=p/\p<=4)/\l=l' then 1 else 0
 |.fI i'=>if p=5/\i=i' then 1 else 0
 |.lock=>if p=6 then 1 else 0
def j7(m:eR):Key->Nat:=qe (ph m) m.version m.zj m.end_ m.slot m.listen
def mj(a:ff):Key->Nat:=qe 3 a.version a.zj a.end_ a.slot a.listen
def jA{m:eR}{p:Nat}(h:ph m=p):j7 m=qe p m.version m.zj m.end_ m.slot m.listen:=by unfold j7;rw[h]
def kZ(i j k s l:Int)(x:Key):qe 0 i j k s l x=0:=by cases x <;> simp[qe]
def zxB(i j k s l i' j' k' s':Int):qe 1 i j k s l=qe 1 i' j' k' s' l:=by funext x;cases x <;> simp[qe]
def zxC(i j k s l j' k' s' l':Int):qe 5 i j k s l=qe 5 i j' k' s' l':=by funext x;cases x <;> simp[qe]
def zxD(i j k s l i' j' k' s' l':Int):qe 6 i j k s l=qe 6 i' j' k' s' l':=by funext x;cases x <;> simp[qe]
def fG{m:eR}{n:Nat}(hd:m.done=false)(hk:m.op.kind=1)(h:(if 5<=m.pc/\m.pc<=11 then 1 else if m.pc=12 then 2 else if 20<=m.pc then (if m.answer.kind=1 then 3 else if m.pc<=22/\0<=m.listen then 1 else 0) else 0)=n):ph m=n:=by
 unfold ph;rw[gf aJ,gk hk];exact h
def i6{m:eR}{n:Nat}(hd:m.done=false)(hk:m.op.kind=2)(h:(if m.pc<=2 then 3 else if m.pc=3 then 4 else if m.pc=4 then 1 else 0)=n):ph m=n:=by
 unfold ph;rw[gf aJ,gf aw,gk hk];exact h
def AB{m:eR}{n:Nat}(hd:m.done=false)(hk:m.op.kind=3)(h:(if 1<=m.pc then 5 else 0)=n):ph m=n:=by
 unfold ph;rw[gf aJ,gf aw,gf aw,gk hk];exact h
def iS{m:eR}{n:Nat}(hd:m.done=false)(hk:m.op.kind=5)(h:(if 1<=m.pc then 6 else 0)=n):ph m=n:=by
 unfold ph;rw[gf aJ,gf aw,gf aw,gf aw,gk hk];exact h
def D7{m:eR}(hd:m.done=false)(h1:m.op.kind≠1)(h2:m.op.kind≠2)(h3:m.op.kind≠3)(h5:m.op.kind≠5):ph m=0:=by
 unfold ph;rw[gf aJ,gf h1,gf h2,gf h3,gf h5]
def yQ{m:eR}(hd:m.done=true)(h:¬(m.op.kind=1/\m.answer.kind=1)):ph m=0:=by
 unfold ph;rw[gk hd,gf h]
def MN{m:eR}(hd:m.done=true)(hk:m.op.kind=1)(h:m.answer.kind=1):ph m=3:=by
 unfold ph;rw[gk hd,gk ⟨hk,h⟩]
def iV(w:Wor)(i j k:Int):Option En:=if 0<=i/\0<=j/\0<=k then wO w i j k else none
def iE(e:En)(s:Int):Nat:=if 0<=s/\s<e.next.length/\s∉(Slp.qG e).1 then 1 else 0
def Has(w:Wor):Key->Nat
 |.slot i j k s=>match iV w i j k with
  |some e=>iE e s
  |none=>0
 |.act i j k=>match iV w i j k with
  |some e=>e.zi.toNat
  |none=>0
 |.fi i=>if 0<=i then (match w.zd[i.toNat]? with
  |some l=>l.zi.toNat
  |none=>0) else 0
 |.fI i=>if 0<=i/\i<w.ze.length/\i≠w.current/\∀r∈w.zr,r.version≠i then 1 else 0
 |.lock=>w.lock.toNat
def Mv(w w':Wor)(a b:Key->Nat):Prop:=∀x,Has w' x+a x=Has w x+b x
def OE{w:Wor}{m:eR}{v:fc}{g:Gr}{e:En}(hat:fS w m v g e):iV w m.version m.zj m.end_=some e:=by
 unfold iV;rw[gk ⟨hat.v0,hat.g0,hat.e0⟩];exact FF hat
def Na{w:Wor}{m:eR}{v:fc}{g:Gr}{e:En}(hat:fS w m v g e)(e':En)(tk i j k:Int):iV (ma w m v g e' tk) i j k=if i=m.version/\j=m.zj/\k=m.end_ then some e' else iV w i j k:=by
 have p1:=hat.v0;have p2:=hat.g0;have p3:=hat.e0;unfold iV;rw[Fb hat];by_cases h:0<=i/\0<=j/\0<=k
 ·rw[gk h,gk h];by_cases q:i=m.version/\j=m.zj/\k=m.end_
  ·rw[gk q,gk (by rw[q.1,q.2.1,q.2.2];exact⟨rfl,rfl,rfl⟩)]
  ·rw[gf q,gf (λz=>q aw)]
 ·rw[gf h,gf h,gf (λz=>h aw)]
def Mb{w w':Wor}(h:w'.ze=w.ze)(i j k:Int):iV w' i j k=iV w i j k:=by unfold iV wO;rw[h]
def qj(w:Wor){a b:Key->Nat}(h:a=b):Mv w w a b:=λx=>by rw[h]
def CK{w w':Wor}{a b:Key->Nat}(h1:w'.ze=w.ze)(h2:w'.zd=w.zd)(h3:w'.zr=w.zr)(h4:w'.current=w.current)(h5:w'.lock=w.lock)(h:a=b):Mv w w' a b:=λx=>by
 rw[h];cases x with
 |slot i j k s=>simp only[Has,Mb h1]
 |act i j k=>simp only[Has,Mb h1]
 |fi i=>simp only[Has,h2]
 |fI i=>simp only[Has,h1,h3,h4]
 |lock=>simp only[Has,h5]
section
variable {w:Wor} {m:eR} {v:fc} {g:Gr} {e e':En} {tk:Int}
def XH(hat:fS w m v g e)(e':En)(tk:Int)(x:Key):Has (ma w m v g e' tk) x=match x with
  |.slot i j k s=>if i=m.version/\j=m.zj/\k=m.end_ then iE e' s else Has w x
  |.act i j k=>if i=m.version/\j=m.zj/\k=m.end_ then e'.zi.toNat else Has w x
  |x=>Has w x:=by
 cases x with
 |slot i j k s=>
  simp only[Has,Na hat];by_cases q:i=m.version/\j=m.zj/\k=m.end_
  ·rw[gk q,gk q]
  ·rw[gf q,gf q]
 |act i j k=>
  simp only[Has,Na hat];by_cases q:i=m.version/\j=m.zj/\k=m.end_
  ·rw[gk q,gk q]
  ·rw[gf q,gf q]
 |fi i=>rfl
 |fI i=>simp only[Has,ma,r4]
 |lock=>rfl
def Ih(hat:fS w m v g e)(s:Int):Has w (.slot m.version m.zj m.end_ s)=iE e s:=by simp only[Has,OE hat]
def OH(hat:fS w m v g e):Has w (.act m.version m.zj m.end_)=e.zi.toNat:=by simp only[Has,OE hat]
def D4(hat:fS w m v g e){a b:Key->Nat}(hs:∀s,iE e' s+a (.slot m.version m.zj m.end_ s)=iE e s+b (.slot m.version m.zj m.end_ s))(ha:e'.zi.toNat+a (.act m.version m.zj m.end_)=e.zi.toNat+b (.act m.version m.zj m.end_))
 (h:∀x,(∀s,x≠.slot m.version m.zj m.end_ s)->x≠.act m.version m.zj m.end_->a x=b x):Mv w (ma w m v g e' tk) a b:=λx=>by
 rw[XH hat];cases x with
 |slot i j k s=>
  dsimp only;by_cases q:i=m.version/\j=m.zj/\k=m.end_
  ·rw[gk q];obtain⟨rfl,rfl,rfl⟩:=q;rw[Ih hat];exact hs s
  ·rw[gf q,h (.slot i j k s) (λs' z=>q (by cases z;exact⟨rfl,rfl,rfl⟩)) (λz=>nomatch z)]
 |act i j k=>
  dsimp only;by_cases q:i=m.version/\j=m.zj/\k=m.end_
  ·rw[gk q];obtain⟨rfl,rfl,rfl⟩:=q;rw[OH hat];exact ha
  ·rw[gf q,h (.act i j k) (λs' z=>nomatch z) (λz=>q (by cases z;exact⟨rfl,rfl,rfl⟩))]
 |fi i=>dsimp only;rw[h (.fi i) (λs' z=>nomatch z) (λz=>nomatch z)]
 |fI i=>dsimp only;rw[h (.fI i) (λs' z=>nomatch z) (λz=>nomatch z)]
 |lock=>dsimp only;rw[h (.lock) (λs' z=>nomatch z) (λz=>nomatch z)]
def OR(hat:fS w m v g e)(hl:e'.next.length=e.next.length)(hf:(Slp.qG e').1=(Slp.qG e).1)(ha:e'.zi=e.zi){a b:Key->Nat}(h:a=b):Mv w (ma w m v g e' tk) a b:=
 D4 hat (λs=>by rw[h];unfold iE;rw[hl,hf]) (by rw[h,ha]) λx _ _=>by rw[h]
def zxq(hat:fS w m v g e)(hl:e'.next.length=e.next.length){s:Int}(h0:0<=s)(h1:s<e.next.length)(hf:(Slp.qG e).1=s::(Slp.qG e').1)(hn:s∉(Slp.qG e').1)(ha:e'.zi=e.zi)(l:Int):Mv w (ma w m v g e' tk) (qe 1 m.version m.zj m.end_ s l) (qe 2 m.version m.zj m.end_ s l):=by
 refine D4 hat (λt=>?_) (by simp[qe,ha]) λx q1 q2=>?_
 ·unfold iE;rw[hl,hf];simp only[qe,pP,uv];by_cases q:s=t
  ·subst q;simp[h0,h1,hn]
  ·have q':¬t=s:=λz=>q z.symm
   simp[q,q']
 ·cases x with
  |slot i j k t=>
   simp only[qe];rw[gf aj,gf (λz=>q1 t (by rw[z.2.1,z.2.2.1,z.2.2.2.1]))]
  |act i j k=>simp[qe]
  |fi i=>simp[qe]
  |fI i=>simp[qe]
  |lock=>simp[qe]
def Zf(hat:fS w m v g e)(hl:e'.next.length=e.next.length){s:Int}(h0:0<=s)(h1:s<e.next.length)(hf:(Slp.qG e').1=s::(Slp.qG e).1)(hn:s∉(Slp.qG e).1)(ha:e'.zi=e.zi)(l:Int):Mv w (ma w m v g e' tk) (qe 3 m.version m.zj m.end_ s l) (qe 4 m.version m.zj m.end_ s l):=by
 refine D4 hat (λt=>?_) (by simp[qe,ha]) λx q1 q2=>?_
 ·unfold iE;rw[hl,hf];simp only[qe,pP,uv];by_cases q:s=t
  ·subst q;simp[h0,h1,hn]
  ·have q':¬t=s:=λz=>q z.symm
   simp[q,q']
 ·cases x with
  |slot i j k t=>
   simp only[qe];rw[gf (λz=>q1 t (by rw[z.2.1,z.2.2.1,z.2.2.2.1])),gf aj]
  |act i j k=>simp[qe]
  |fi i=>simp[qe]
  |fI i=>simp[qe]
  |lock=>simp[qe]
def Ze(hat:fS w m v g e)(hl:e'.next.length=e.next.length)(hf:(Slp.qG e').1=(Slp.qG e).1)(h0:0<=e.zi)(ha:e'.zi=e.zi+1)(s l:Int):Mv w (ma w m v g e' tk) (qe 2 m.version m.zj m.end_ s l) (qe 3 m.version m.zj m.end_ s l):=by
 refine D4 hat (λt=>by unfold iE;rw[hl,hf];simp[qe]) (by simp[qe,ha];omega) λx q1 q2=>?_
 cases x with
 |slot i j k t=>simp[qe]
 |act i j k=>
  simp only[qe];rw[gf aj,gf (λz=>q2 (by rw[z.2.1,z.2.2.1,z.2.2.2]))]
 |fi i=>simp[qe]
 |fI i=>simp[qe]
 |lock=>simp[qe]
def Zc(hat:fS w m v g e)(hl:e'.next.length=e.next.length)(hf:(Slp.qG e').1=(Slp.qG e).1)(h0:1<=e.zi)(ha:e'.zi=e.zi-1)(s l:Int):Mv w (ma w m v g e' tk) (qe 4 m.version m.zj m.end_ s l) (qe 1 m.version m.zj m.end_ s l):=by
 refine D4 hat (λt=>by unfold iE;rw[hl,hf];simp[qe]) (by simp[qe,ha];omega) λx q1 q2=>?_
 cases x with
 |slot i j k t=>simp[qe]
 |act i j k=>
  simp only[qe];rw[gf (λz=>q2 (by rw[z.2.1,z.2.2.1,z.2.2.2])),gf aj]
 |fi i=>simp[qe]
 |fI i=>simp[qe]
 |lock=>simp[qe]
end
def Jl{w:Wor}{i:Int}{x y:fq}(hi:0<=i)(hx:w.zd[i.toNat]?=some x){a b:Key->Nat}(h0:y.zi.toNat+a (.fi i)=x.zi.toNat+b (.fi i))(h:∀k,k≠.fi i->a k=b k):Mv w {w with zd:=w.zd.set i.toNat y} a b:=λk=>by
 cases k with
 |fi n=>
  by_cases q:n=i
  ·subst q;simp only[Has];rw[gk hi,gk hi,gu (dY.1 hx).1,hx];exact h0
  ·rw[h (.fi n) (λz=>q (by cases z;rfl))];simp only[Has];by_cases n0:0<=n
   ·rw[gk n0,gk n0,gV aw]
   ·rw[gf n0,gf n0]
 |slot a' b' c s=>rw[h (.slot a' b' c s) (λz=>nomatch z)];rfl
 |act a' b' c=>rw[h (.act a' b' c) (λz=>nomatch z)];rfl
 |fI n=>rw[h (.fI n) (λz=>nomatch z)];rfl
 |lock=>rw[h .lock (λz=>nomatch z)];rfl
def Xw{w:Wor}{i:Int}{x y:fq}(hi:0<=i)(hx:w.zd[i.toNat]?=some x)(h0:0<=x.zi)(hy:y.zi=x.zi+1)(a b c d a' b' c' d' l:Int):Mv w {w with zd:=w.zd.set i.toNat y} (qe 0 a b c d l) (qe 1 a' b' c' d' i):=by
 refine Jl hi hx (by simp[qe];omega) λk q=>?_
 cases k with
 |fi n=>simp only[qe];rw[gf aj,gf (λz=>q (by rw[z.2]))]
 |slot a' b' c s=>simp[qe]
 |act a' b' c=>simp[qe]
 |fI n=>simp[qe]
 |lock=>simp[qe]
def NL{w:Wor}{i:Int}{x y:fq}(hi:0<=i)(hx:w.zd[i.toNat]?=some x)(h0:1<=x.zi)(hy:y.zi=x.zi-1)(a b c d a' b' c' d' l:Int):Mv w {w with zd:=w.zd.set i.toNat y} (qe 1 a b c d i) (qe 0 a' b' c' d' l):=by
 refine Jl hi hx (by simp[qe];omega) λk q=>?_
 cases k with
 |fi n=>simp only[qe];rw[gf (λz=>q (by rw[z.2])),gf aj]
 |slot a' b' c s=>simp[qe]
 |act a' b' c=>simp[qe]
 |fI n=>simp[qe]
 |lock=>simp[qe]
def L4{w:Wor}{i:Int}{x y:fq}(hi:0<=i)(hx:w.zd[i.toNat]?=some x)(hy:y.zi=x.zi){a b:Key->Nat}(h:a=b):Mv w {w with zd:=w.zd.set i.toNat y} a b:=
 Jl hi hx (by rw[h,hy]) λ_ _=>by rw[h]
def kO{m m':eR}(h:ph m=0)(h':ph m'=0):j7 m=j7 m':=by
 funext x
 rw[jA h,jA h',kZ,kZ]
def wY{m m':eR}(h:ph m=1)(h':ph m'=1)(hl:m'.listen=m.listen):j7 m=j7 m':=by
 rw[jA h,jA h',hl];exact zxB ..
def C5{p:Nat}{m m':eR}(h:ph m=p)(h':ph m'=p)(h1:m'.version=m.version)(h2:m'.zj=m.zj)(h3:m'.end_=m.end_)(h4:m'.slot=m.slot)(h5:m'.listen=m.listen):j7 m=j7 m':=by
 rw[jA h,jA h',h1,h2,h3,h4,h5]
def zyx{m m':eR}(h:ph m=5)(h':ph m'=5)(hl:m'.version=m.version):j7 m=j7 m':=by
 rw[jA h,jA h',hl];exact zxC ..
def kP{m m':eR}(h:ph m=6)(h':ph m'=6):j7 m=j7 m':=by
 rw[jA h,jA h'];exact zxD ..
def oO{w w':Wor}{m m':eR}{p p':Nat}(h:ph m=p)(h':ph m'=p')(x:Mv w w' (qe p m.version m.zj m.end_ m.slot m.listen) (qe p' m'.version m'.zj m'.end_ m'.slot m'.listen)):Mv w w' (j7 m) (j7 m'):=by
 rw[jA h,jA h'];exact x
def mr(e:En):Int:=e.head / 4294967296
def A3(N:Nat)(e:En):Prop:=mr e<=N/\∀x∈e.next, -1<=x/\x<=3
def Tg(N:Nat)(w:Wor):Prop:=∀v∈w.ze,∀g∈v.zq,∀e∈g.ends,A3 N e
def Tg.mono{N N':Nat}{w:Wor}(h:Tg N w)(hN:N<=N'):Tg N' w:=λv hv g hg e he=>⟨by have:=(h v hv g hg e he).1;omega,(h v hv g hg e he).2⟩
structure B4(e e':En)(o:Int->Nat):Prop where
 len:e'.next.length=e.next.length
 tag:mr e<=mr e'
 head:mr e'=mr e->e'.head=e.head
 next:∀s,0<=s->o s=0->e'.next[s.toNat]?=e.next[s.toNat]?
def B4.refl(e:En)(o:Int->Nat):B4 e e o:=⟨rfl,gR _,λ_=>O,λ_ _ _=>O⟩
structure Da(g g':Gr)(o:Nat->Int->Nat):Prop where
 len:g'.ends.length=g.ends.length
 ends : ∀(k : Nat) e e', g.ends[k]? = some e -> g'.ends[k]? = some e' -> B4 e e' (o k)
def Da.refl(g:Gr)(o:Nat->Int->Nat):Da g g o:=⟨rfl,λk e e' h h'=>by rw[h]at h';cases h';exact B4.refl e _⟩
structure AJ(v v':fc)(o:Nat->Nat->Int->Nat):Prop where
 snap:v'.snap=v.snap
 len:v'.zq.length=v.zq.length
 Aw:∀(j:Nat) g g',v.zq[j]?=some g->v'.zq[j]?=some g'->Da g g' (o j)
def AJ.refl(v:fc)(o:Nat->Nat->Int->Nat):AJ v v o:=⟨rfl,rfl,λj g g' h h'=>by rw[h]at h';cases h';exact Da.refl g _⟩
structure jR(w w':Wor)(o:Key->Nat):Prop where
 zo:w.zo<=w'.zo
 pins:w'.pins.length=w.pins.length
 counts:w'.counts.length=w.counts.length
 mu:w.ze.length<=w'.ze.length
 fI:∀(i:Nat) v v',w.ze[i]?=some v->w'.ze[i]?=some v'->AJ v v' λj k s=>o (.slot i j k s)
 fi:w'.zd.length=w.zd.length
 wb:∀(i:Nat) l l',w.zd[i]?=some l->w'.zd[i]?=some l'->l'.name=l.name/\(l.drain=true->l'.drain=true)
 iX:w.zr.length<=w'.zr.length
 zr:∀(i:Nat) r r',w.zr[i]?=some r->w'.zr[i]?=some r'->r'.version=r.version/\r'.at_=r.at_/\(o .lock=0->r'.gone=r.gone)
def jv{α:Type}{l:List α}{i:Nat}{x y:α}(h:l[i]?=some x)(h':l[i]?=some y):y=x:=by rw[h]at h';cases h';rfl
def x9{w w':Wor}{o:Key->Nat}(h0:w.zo<=w'.zo)(h1:w'.pins.length=w.pins.length)(h2:w'.counts.length=w.counts.length)(h3:w'.ze=w.ze)(h4:w'.zd=w.zd)(h5:w'.zr=w.zr):jR w w' o:=by
 refine⟨h0,h1,h2,by rw[h3];exact gD _,λi v v' h h'=>?_,by rw[h4],λi l l' h h'=>?_,by rw[h5];exact gD _,λi r r' h h'=>?_⟩
 ·rw[h3]at h';rw[jv h h'];exact AJ.refl v _
 ·rw[h4]at h';rw[jv h h'];exact⟨rfl,id⟩
 ·rw[h5]at h';rw[jv h h'];exact dS
def jR.refl(w:Wor)(o:Key->Nat):jR w w o:=x9 (gR _) O O O O O
def wE{w:Wor}{m:eR}{v:fc}{g:Gr}{e e':En}{tk:Int}{o:Key->Nat}(hat:fS w m v g e)(h:B4 e e' λs=>o (.slot m.version m.zj m.end_ s)):jR w (ma w m v g e' tk) o:=by
 have p1:=hat.v0;have p2:=hat.g0;have p3:=hat.e0;refine⟨gR _,rfl,rfl,by show _<=(w.ze.set _ _).length;rw[r4];exact gD _,λi v1 v2 h1 h2=>?_,rfl,λi l l' h1 h2=>?_,gD _,λi r r' h1 h2=>?_⟩
 ·rcases x7 h2 with⟨rfl,rfl,_⟩|⟨_,h2⟩
  ·rw[jv hat.at_ h1];refine⟨rfl,aj,λj g1 g2 h3 h4=>?_⟩;rcases x7 h4 with⟨rfl,rfl,_⟩|⟨_,h4⟩
   ·rw[jv hat.fE h3];refine⟨aj,λk e1 e2 h5 h6=>?_⟩;rcases x7 h6 with⟨rfl,rfl,_⟩|⟨_,h6⟩
    ·rw[jv hat.fL h5,rH p1,rH p2,rH p3];exact h
    ·rw[jv h5 h6];exact B4.refl e1 _
   ·rw[jv h3 h4];exact Da.refl g1 _
  ·rw[jv h1 h2];exact AJ.refl v1 _
 ·rw[jv h1 h2];exact⟨rfl,id⟩
 ·rw[jv h1 h2];exact dS
def DU{w:Wor}{i:Nat}{x y:fq}{o:Key->Nat}(hx:w.zd[i]?=some x)(hn:y.name=x.name)(hd:x.drain=true->y.drain=true):jR w {w with zd:=w.zd.set i y} o:=by
 refine⟨gR _,rfl,rfl,gD _,λi v1 v2 h1 h2=>?_,aj,λj l l' h1 h2=>?_,gD _,λi r r' h1 h2=>?_⟩
 ·rw[jv h1 h2];exact AJ.refl v1 _
 ·rcases x7 h2 with⟨rfl,rfl,_⟩|⟨_,h2⟩
  ·rw[jv hx h1];exact⟨hn,hd⟩
  ·rw[jv h1 h2];exact⟨rfl,id⟩
 ·rw[jv h1 h2];exact dS
def NV{α:Type}{l l2:List α}{i:Nat}{x y:α}(h:l[i]?=some x)(h':(l++l2)[i]?=some y):y=x:=by
 rw[gz (dY.1 h).1]at h';exact jv h h'
def V8{w:Wor}{v:fc}{n:Int}{o:Key->Nat}:jR w {w with current:=n,ze:=w.ze++[v]} o:=by
 refine⟨gR _,rfl,rfl,aj,λi v1 v2 h1 h2=>?_,rfl,λi l l' h1 h2=>?_,gD _,λi r r' h1 h2=>?_⟩
 ·rw[NV h1 h2];exact AJ.refl v1 _
 ·rw[jv h1 h2];exact⟨rfl,id⟩
 ·rw[jv h1 h2];exact dS
def XQ{w:Wor}{x:fA}{o:Key->Nat}:jR w {w with zr:=w.zr++[x]} o:=by
 refine⟨gR _,rfl,rfl,gD _,λi v1 v2 h1 h2=>?_,rfl,λi l l' h1 h2=>?_,aj,λi r r' h1 h2=>?_⟩
 ·rw[jv h1 h2];exact AJ.refl v1 _
 ·rw[jv h1 h2];exact⟨rfl,id⟩
 ·rw[NV h1 h2];exact dS
def Uk{w:Wor}{i k:Nat}{v:fc}{x:fA}{o:Key->Nat}(ho:o .lock=1)(hv:w.ze[k]?=some v)(hx:w.zr[i]?=some x):jR w {w with ze:=w.ze.set k (AG v),zr:=w.zr.set i (wU x)} o:=by
 refine⟨gR _,rfl,rfl,aj,λj v1 v2 h1 h2=>?_,rfl,λi l l' h1 h2=>?_,aj,λj r r' h1 h2=>?_⟩
 ·rcases x7 h2 with⟨rfl,rfl,_⟩|⟨_,h2⟩
  ·rw[jv hv h1];exact⟨rfl,rfl,λj g g' h3 h4=>by rw[jv h3 (show v.zq[j]?=some g' from h4)];exact Da.refl g _⟩
  ·rw[jv h1 h2];exact AJ.refl v1 _
 ·rw[jv h1 h2];exact⟨rfl,id⟩
 ·rcases x7 h2 with⟨rfl,rfl,_⟩|⟨_,h2⟩
  ·rw[jv hx h1];exact⟨rfl,rfl,λz=>by omega⟩
  ·rw[jv h1 h2];exact dS
structure iu(w:Wor)(m:eR)(v:fc)(g:Gr)(e:En):Prop where
 pc:(0<=m.pc/\m.pc<=12)\/(20<=m.pc/\m.pc<=23)
 ep:m.pc=1\/m.pc=2->0<=m.zo/\m.zo<=w.zo
 fi:(4<=m.pc/\m.pc<=12)\/m.pc=22->0<=m.listen
 early:4<=m.pc/\m.pc<=5->m.zj=0/\m.end_=0/\m.other=0
 fk:4<=m.pc/\m.pc<=8->m.slot=0
 draw:m.pc=6->∃c,v.snap.zk[m.zj.toNat]?=some c/\(eU c).length≠0
 slot:m.pc=10\/m.pc=11->m.slot=zA m.word/\m.word / 4294967296<=mr e
 link:m.pc=11->e.head=m.word->e.next[m.slot.toNat]?=some m.link
 mz:20<=m.pc->1<=m.answer.kind/\m.answer.kind<=5/\(m.answer.kind=1->m.answer=wo m/\0<=m.listen)
 kind:m.pc=22->m.answer.kind≠1
structure GM(w:Wor)(m:eR)(v:fc)(g:Gr)(e:En):Prop where
 pc:(0<=m.pc/\m.pc<=4)\/m.pc=9
 fi:m.pc<=4->0<=m.listen
 tag:m.pc=1\/m.pc=2->m.word / 4294967296<=mr e/\zA m.word<=3
 next:m.pc=2->e.next[m.slot.toNat]?=some (zA m.word)
structure GN(w:Wor)(m:eR)(v:fc)(g:Gr)(e:En):Prop where
 pc:0<=m.pc/\m.pc<=2
 ep:m.pc=2->0<=m.zo/\m.zo<=w.zo
structure EO(w:Wor)(m:eR)(v:fc)(g:Gr)(e:En):Prop where
 pc:(0<=m.pc/\m.pc<=6)\/(8<=m.pc/\m.pc<=10)
 nk:m.pc=2->m.i<w.pins.length
 iX:m.pc=5\/m.pc=6->∃r,w.zr[m.i.toNat]?=some r/\r.version=m.version/\r.gone=false
 act:m.pc=5->m.k<(yw v).length
 fi:m.pc=9\/m.pc=10->∃l,w.zd[m.i.toNat]?=some l/\l.drain=true
structure Dr(w:Wor)(m:eR)(v:fc)(g:Gr)(e:En):Prop where
 pc:m.pc=0
 k:m.k<6
 i:m.i<w.counts.length
def Lc(w:Wor)(m:eR)(v:fc)(g:Gr)(e:En):Prop:=(m.op.kind=1/\iu w m v g e)\/(m.op.kind=2/\GM w m v g e)\/(m.op.kind=3/\GN w m v g e)\/(m.op.kind=4/\m.pc=0)\/(m.op.kind=5/\EO w m v g e)\/(m.op.kind=6/\Dr w m v g e)
def lK(m:eR):Prop:=1<=m.answer.kind/\m.answer.kind<=5/\(m.answer.kind=1->m.answer=wo m/\0<=m.listen)
abbrev Py(m:eR):ff:=⟨6,m.version,m.zj,m.end_,m.slot,m.listen,0,⟨0,0,0,0,0,0⟩⟩
def Km(m:eR):Prop:=m.answer=Py m/\m.pc=4\/m.answer=lH 7/\m.pc=9
def BL(m:eR):Prop:=7<=m.answer.kind/\m.answer.kind<=13
def EN(m:eR):Prop:=(m.op.kind=1/\lK m)\/(m.op.kind=2/\Km m)\/(3<=m.op.kind/\m.op.kind<=6/\BL m)
structure Nc(N K:Nat)(w:Wor)(m:eR)(L:Wor->eR->fc->Gr->En->Prop)(F:eR->Prop)(r:Wor×eR×eV):Prop where
 ev:r.2.2.access≠0
 st:St (N+1) (K+1) r.1
 tg:Tg (N+1) r.1
 tm:fT r.2.1
 op:r.2.1.op=m.op
 th:r.2.1.zf=m.zf
 keep:jR w r.1 (j7 m)
 mv:Mv w r.1 (j7 m) (j7 r.2.1)
 go:(r.2.1.done=true/\F r.2.1)\/∃v g e,qF r.1 r.2.1 v g e/\L r.1 r.2.1 v g e
def CP{N:Nat}{w:Wor}{m:eR}{v:fc}{g:Gr}{e e':En}{tk:Int}(h:Tg N w)(hat:fS w m v g e)(h':A3 N e'):Tg N (ma w m v g e' tk):=λv2 hv g2 hg e2 he=>by
 have mv:=gh hat.at_;have mg:=gh hat.fE;rcases mem_set hv with hv|rfl
 ·exact h v2 hv g2 hg e2 he
 ·rcases mem_set hg with hg|rfl
  ·exact h v mv g2 hg e2 he
  ·rcases mem_set he with he|rfl
   ·exact h v mv g mg e2 he
   ·exact h'
def C2{N:Nat}{w:Wor}{m:eR}{v:fc}{g:Gr}{e:En}(h:Tg N w)(hat:fS w m v g e):A3 N e:=h v (gh hat.at_) g (gh hat.fE) e (gh hat.fL)
section
variable {N K:Nat} {w:Wor} {m:eR} {v:fc} {g:Gr} {e:En}
def Z0(st:St N K w)(tg:Tg N w)(su:qF w m v g e)(tm:fT m)(lo:iu w m v g e)(hk:m.op.kind=1)(h3:m.pc<3):∃r,zZ w m v g e=some r/\Nc N K w m iu lK r:=by
 have gw:=st.jz;have ge:=qf.1 gw.ground;have hep:=ge.zo;have st1:St (N+1) (K+1) w:=st.mono aw aw;have tg1:=tg.mono (pY N);have lp:=lo.pc;unfold zZ;rw[gk h3];unfold oU;rcases(by omega:m.pc=0\/m.pc=1\/m.pc=2) with p|p|p
 ·rw[gk p];exact zQ O ⟨uX,st1,tg1,uO,rfl,rfl,jR.refl w _,qj w (kO (fG su.done hk uM) (fG su.done hk uM)),.inr ⟨v,g,e,uQ,⟨uL,λ_=>⟨hep.1,gR _⟩,uK,uK,uK,uK,uK,uK,uK,uK⟩⟩⟩
 ·have he:=lo.ep (.inl p);have hw:IntKind.i64.wrap (m.zo+1)=m.zo+1:=qb aw aw;rw[gf aw,gk p,hw];have sp:=st1.nk m.zf.toNat (p:=m.zo+1) aw aw
  exact zQ O ⟨tN,sp,tg1,uO,rfl,rfl,x9 (gR _) aj O O O O,CK O O O O O (kO (fG su.done hk uM) (fG su.done hk uM)),.inr ⟨v,g,e,⟨qo.2 sp.jz,aq su.zf,su.done,su.version,su.fH,su.zj,su.fE,su.end_,su.fL,su.other,su.slot,su.listen,su.i,su.k⟩,
   ⟨uL,λ_=>he,uK,uK,uK,uK,uK,uK,uK,uK⟩⟩⟩
 ·rw[gf aw,gf aw,gk p];by_cases q:w.zo=m.zo
  ·rw[gk q];exact zQ O ⟨uX,st1,tg1,uO,rfl,rfl,jR.refl w _,qj w (kO (fG su.done hk uM) (fG su.done hk uM)),.inr ⟨v,g,e,uQ,⟨uL,uK,uK,uK,uK,uK,uK,uK,uK,uK⟩⟩⟩
  ·rw[gf q];exact zQ O ⟨uX,st1,tg1,uO,rfl,rfl,jR.refl w _,qj w (kO (fG su.done hk uM) (fG su.done hk uM)),.inr ⟨v,g,e,uQ,⟨uL,λ_=>⟨hep.1,gR _⟩,uK,uK,uK,uK,uK,uK,uK,uK⟩⟩⟩
def zxE(st:St N K w)(tg:Tg N w)(su:qF w m v g e)(tm:fT m)(lo:iu w m v g e)(hk:m.op.kind=1)(hN:N<=100000000)(p:m.pc=3):∃r,zZ w m v g e=some r/\Nc N K w m iu lK r:=by
 have gw:=st.jz;have st1:St (N+1) (K+1) w:=st.mono aw aw;have tg1:=tg.mono (pY N);have pr:=Ly w.zd m.op.listen;have hl:=st.ty.fi;have cu:=gw.current;obtain⟨v',hv'⟩:∃v',w.ze[w.current.toNat]?=some v':=⟨_,dZ aw⟩;have gv:=(gw.fI _ v' hv').1;have h0:0<v'.zq.length:=aF
 obtain⟨g',e',hg,he,l1,l2⟩:=wR gv h0;unfold zZ;rw[gf aw,gk p];by_cases q:zx w.zd m.op.listen<0
 ·rw[gk q];refine zQ O ⟨uX,st1,tg1,⟨aK,tm.word,tm.link,tm.host,tm.path,tm.d0,tm.d1,tm.cfg,(λh=>absurd ((show m.op.kind=6 from h).symm.trans hk) ar)⟩,rfl,rfl,jR.refl w _,qj w (kO (fG su.done hk uM) (fG su.done hk ?_)),.inr ⟨v',g',e',⟨su.world,su.zf,su.done,cu,hv',⟨gR _,aL⟩,hg,⟨gR _,aL⟩,he,⟨gR _,aL⟩,⟨gR _,aL⟩,pr,su.i,su.k⟩,⟨uL,uK,uK,uK,uK,uK,uK,uK,λ_=>⟨by show(1:Int)<=2;decide,by show(2:Int)<=5;decide,λh=>absurd (show(2:Int)=1 from h) ar⟩,uK⟩⟩⟩;dsimp only;(repeat' split) <;> omega
 ·rw[gf q]
  exact zQ O ⟨uX,st1,tg1,⟨aK,tm.word,tm.link,tm.host,tm.path,tm.d0,tm.d1,tm.cfg,tm.mz⟩,rfl,rfl,jR.refl w _,qj w (kO (fG su.done hk uM) (fG su.done hk uM)),.inr ⟨v',g',e',⟨su.world,su.zf,su.done,cu,hv',⟨gR _,aL⟩,hg,⟨gR _,aL⟩,he,⟨gR _,aL⟩,⟨gR _,aL⟩,pr,su.i,su.k⟩,
   ⟨uL,uK,λ_=>by show 0<=zx w.zd m.op.listen;omega,λ_=>⟨rfl,rfl,rfl⟩,λ_=>O,uK,uK,uK,uK,uK⟩⟩⟩
def zxF(st:St N K w)(tg:Tg N w)(su:qF w m v g e)(tm:fT m)(lo:iu w m v g e)(hk:m.op.kind=1)(hK:K<=1099511627776)(p:m.pc=4):∃r,zZ w m v g e=some r/\Nc N K w m iu lK r:=by
 have gw:=st.jz;have tg1:=tg.mono (pY N);have l0:=lo.fi (.inl aw);have sl:=su.listen;obtain⟨x,hx⟩:∃x,w.zd[m.listen.toNat]?=some x:=⟨_,dZ aw⟩;have li:=FZ (gw.fi _ x hx).1;have ca:=st.iy.fi x (gh hx);have hw:IntKind.i64.wrap (x.zi+1)=x.zi+1:=qb aw aw;have st2:=IH st su hx (x.zi+1) aw aw hK;unfold zZ wi;rw[gf aw,gf aw,gk p,gf aw,hx,gF];unfold PH;rw[hw]
 exact zQ O ⟨tP,st2,tg1,uO,rfl,rfl,DU hx O id,oO (p:=0) (p':=1) (fG su.done hk uM) (fG su.done hk uM) (Xw l0 hx li.2.1 O _ _ _ _ _ _ _ _ _),.inr ⟨v,g,e,⟨qo.2 st2.jz,su.zf,su.done,su.version,su.fH,su.zj,su.fE,su.end_,su.fL,su.other,su.slot,aq su.listen,su.i,su.k⟩,
  ⟨uL,uK,λ_=>l0,λ_=>lo.early aw,λ_=>lo.fk aw,uK,uK,uK,uK,uK⟩⟩⟩
def zxG(st:St N K w)(tg:Tg N w)(su:qF w m v g e)(tm:fT m)(lo:iu w m v g e)(hk:m.op.kind=1)(p:m.pc=5):∃r,zZ w m v g e=some r/\Nc N K w m iu lK r:=by
 have gw:=st.jz;have st1:St (N+1) (K+1) w:=st.mono aw aw;have tg1:=tg.mono (pY N);have l0:=lo.fi (.inl aw);have sl:=su.listen;obtain⟨x,hx⟩:∃x,w.zd[m.listen.toNat]?=some x:=⟨_,dZ aw⟩;obtain⟨z1,z2,z3⟩:=lo.early aw;have z4:=lo.fk aw;have gv:=(gw.fI _ v su.fH).1;unfold zZ wi;rw[gf aw,gf aw,gf aw,gk p,gf aw,hx,gF];cases hd:x.drain
 ·simp only[sj,if_false];obtain⟨c0,c,hc⟩:=NY gv.snap m.op.listen m.op.host m.op.path;by_cases f:(xk m v).2=0
  ·have glt:(xk m v).1.toNat<v.zq.length:=by have:=(dY.1 hc).1;have:=gv.len;show(jr v.snap m.op.listen m.op.host m.op.path).1.toNat<_;omega
   obtain⟨g',e',hg,he,q1,q2⟩:=wR gv glt;have c0':0<=(xk m v).1:=c0;have su':∀pc an,qF w {m with zj:=(xk m v).1,pc:=pc,answer:=an} v g' e':=λpc an=>⟨su.world,su.zf,su.done,su.version,su.fH,⟨c0',by show(xk m v).1<_;omega⟩,hg,⟨by show 0<=m.end_;omega,by show m.end_<_;omega⟩,by show g'.ends[m.end_.toNat]?=_;rw[z2];exact he,⟨by show 0<=m.other;omega,by show m.other<_;omega⟩,⟨aM,aN⟩,su.listen,su.i,su.k⟩
   by_cases d:(xE c m.op.d0 m.op.d1).2.2=0
   ·have hn:(eU c).length≠0:=by
     intro hz;unfold xE at d;rw[gk hz]at d;cases d
    by_cases po:c.xL=1
    ·rw[Mj f hc d po];exact zQ O ⟨uX,st1,tg1,uO,rfl,rfl,jR.refl w _,qj w (wY (fG su.done hk uM) (fG su.done hk uM) O),.inr ⟨v,g',e',su' 6 m.answer,⟨uL,uK,λ_=>l0,uK,λ_=>z4,λ_=>⟨c,hc,hn⟩,uK,uK,uK,uK⟩⟩⟩
    ·rw[Mk f hc d po];have gl:=(gv.Aw _ g' c hg hc).1;have dv:xE c m.op.d0 m.op.d1=(yj c m.op.d0,yj c m.op.d1,0):=by unfold xE;rw[gf hn]
     have r0:=Jz (n:=m.op.d0) hn;have r1:=Jz (n:=m.op.d1) hn;have d1:(xE c m.op.d0 m.op.d1).1=yj c m.op.d0:=by rw[dv]
     have d2:(xE c m.op.d0 m.op.d1).2.1=yj c m.op.d1:=by rw[dv]
     rw[d1,d2];have r0':0<=yj c m.op.d0/\yj c m.op.d0<c.zJ.length:=r0;have r1':0<=yj c m.op.d1/\yj c m.op.d1<c.zJ.length:=r1;obtain⟨e2,he2⟩:∃e2,g'.ends[(yj c m.op.d0).toNat]?=some e2:=⟨_,dZ aw⟩;have n2:=((gv.oy.2 g' (gh hg)).2.2 e2 (gh he2)).2
     exact zQ O ⟨uX,st1,tg1,uO,rfl,rfl,jR.refl w _,qj w (wY (fG su.done hk uM) (fG su.done hk uM) O),.inr ⟨v,g',e2,⟨su.world,su.zf,su.done,su.version,su.fH,⟨c0',by show(xk m v).1<_;omega⟩,hg,⟨r0'.1,by show yj c m.op.d0<_;omega⟩,he2,⟨r1'.1,by show yj c m.op.d1<_;omega⟩,⟨aM,aN⟩,su.listen,su.i,su.k⟩,
      ⟨uL,uK,λ_=>l0,uK,λ_=>z4,uK,uK,uK,uK,uK⟩⟩⟩
   ·rw[LC f hc d];exact zQ O ⟨uX,st1,tg1,uP,rfl,rfl,jR.refl w _,qj w (wY (fG su.done hk uM) (fG su.done hk uM) O),.inr ⟨v,g',e',su' 20 (lH 3),⟨uL,uK,uK,uK,uK,uK,uK,uK,λ_=>⟨by show(1:Int)<=3;decide,by show(3:Int)<=5;decide,λh=>absurd (show(3:Int)=1 from h) ar⟩,uK⟩⟩⟩
  ·rw[MR f];exact zQ O ⟨uX,st1,tg1,uP,rfl,rfl,jR.refl w _,qj w (wY (fG su.done hk uM) (fG su.done hk uM) O),.inr ⟨v,g,e,uQ,⟨uL,uK,uK,uK,uK,uK,uK,uK,λ_=>⟨by show(1:Int)<=2;decide,by show(2:Int)<=5;decide,λh=>absurd (show(2:Int)=1 from h) ar⟩,uK⟩⟩⟩
 ·simp only[if_true];exact zQ O ⟨uX,st1,tg1,uP,rfl,rfl,jR.refl w _,qj w (wY (fG su.done hk uM) (fG su.done hk uM) O),.inr ⟨v,g,e,uQ,⟨uL,uK,uK,uK,uK,uK,uK,uK,λ_=>⟨by show(1:Int)<=5;decide,by show(5:Int)<=5;decide,λh=>absurd (show(5:Int)=1 from h) ar⟩,uK⟩⟩⟩
def zxH(st:St N K w)(tg:Tg N w)(su:qF w m v g e)(tm:fT m)(lo:iu w m v g e)(hk:m.op.kind=1)(p:m.pc=6):∃r,zZ w m v g e=some r/\Nc N K w m iu lK r:=by
 have gw:=st.jz;have tg1:=tg.mono (pY N);obtain⟨f1,f2,f3,f4,f5,f6,f7⟩:=vW st su;have gv:=(gw.fI _ v su.fH).1;obtain⟨c,hc,hn⟩:=lo.draw p;have l0:=lo.fi (.inl aw);have z:=lo.fk aw;have gl:=(gv.Aw _ g c su.fE hc).1;have tr:=Jz (n:=g.zt) hn;have tv:(w9 c g.zt).1=((eU c)[(g.zt%(eU c).length).toNat]?).getD 0:=by unfold w9;rw[gf hn]
 rw[<-tv]at tr;obtain⟨e2,he2⟩:∃e2,g.ends[(w9 c g.zt).1.toNat]?=some e2:=⟨_,dZ aw⟩;have n2:=((gv.oy.2 g (gh su.fE)).2.2 e2 (gh he2)).2;have st2:=(st.mono aw aw:St (N+1) (K+1) w).lD su.at_ (e':=qV e e.head e.zi) (tk:=IntKind.u64.wrap (g.zt+1)) f1 O f6 (Yz _) aO;have eset:g.ends.set m.end_.toNat (qV e e.head e.zi)=g.ends:=yk _ _ su.fL;have s1:=(dY.1 su.fH).1;have s2:=(dY.1 su.fE).1;have so:=su.other;unfold zZ;rw[gf aw,gf aw,gf aw,gf aw,gk p,hc,gF]
 exact zQ O ⟨tP,st2,CP tg1 su.at_ (e':=qV e e.head e.zi) (C2 tg1 su.at_),uO,rfl,rfl,wE su.at_ (e':=qV e e.head e.zi) (B4.refl e _),OR su.at_ (e':=qV e e.head e.zi) O O O (wY (fG su.done hk uM) (fG su.done hk uM) O),.inr ⟨_,_,e2,⟨qo.2 st2.jz,su.zf,su.done,aq su.version,gu s1,aq su.zj,gu s2,⟨tr.1,by show _<(((g.ends.set m.end_.toNat (qV e e.head e.zi)).length:Nat):Int);rw[eset];show(w9 c g.zt).1<_;omega⟩,by show(g.ends.set m.end_.toNat (qV e e.head e.zi))[(w9 c g.zt).1.toNat]?=some e2;rw[eset];exact he2,aq so,⟨aM,aN⟩,su.listen,su.i,su.k⟩,
  ⟨uL,uK,λ_=>l0,uK,uK,uK,uK,uK,uK,uK⟩⟩⟩
def zxI(st:St N K w)(tg:Tg N w)(su:qF w m v g e)(tm:fT m)(lo:iu w m v g e)(hk:m.op.kind=1)(p:m.pc=7):∃r,zZ w m v g e=some r/\Nc N K w m iu lK r:=by
 obtain⟨f1,f2,f3,f4,f5,f6,f7⟩:=vW st su;have l0:=lo.fi (.inl aw);unfold zZ;rw[gf aw,gf aw,gf aw,gf aw,gf aw,gk p]
 exact zQ O ⟨uX,st.mono aw aw,tg.mono (pY N),uO,rfl,rfl,jR.refl w _,qj w (wY (fG su.done hk uM) (fG su.done hk uM) O),.inr ⟨v,g,e,⟨su.world,su.zf,su.done,su.version,su.fH,su.zj,su.fE,su.end_,su.fL,su.other,su.slot,su.listen,f4,su.k⟩,
  ⟨uL,uK,λ_=>l0,uK,λ_=>lo.fk aw,uK,uK,uK,uK,uK⟩⟩⟩
def zxJ(st:St N K w)(tg:Tg N w)(su:qF w m v g e)(tm:fT m)(lo:iu w m v g e)(hk:m.op.kind=1)(p:m.pc=8):∃r,zZ w m v g e=some r/\Nc N K w m iu lK r:=by
 have gv:=(st.jz.fI _ v su.fH).1;have tg1:=tg.mono (pY N);have l0:=lo.fi (.inl aw);have z:=lo.fk aw;have so:=su.other;obtain⟨e2,he2⟩:∃e2,g.ends[m.other.toNat]?=some e2:=⟨_,dZ aw⟩;have n2:=((gv.oy.2 g (gh su.fE)).2.2 e2 (gh he2)).2;unfold zZ;rw[gf aw,gf aw,gf aw,gf aw,gf aw,gf aw,gk p,he2,gF];by_cases q:e2.zi<m.i
 ·rw[gk q]
  exact zQ O ⟨uX,st.mono aw aw,tg1,uO,rfl,rfl,jR.refl w _,qj w (wY (fG su.done hk uM) (fG su.done hk uM) O),.inr ⟨v,g,e2,⟨su.world,su.zf,su.done,su.version,su.fH,su.zj,su.fE,so,he2,so,⟨aM,aN⟩,su.listen,su.i,su.k⟩,
   ⟨uL,uK,λ_=>l0,uK,uK,uK,uK,uK,uK,uK⟩⟩⟩
 ·rw[gf q]
  exact zQ O ⟨uX,st.mono aw aw,tg1,uO,rfl,rfl,jR.refl w _,qj w (wY (fG su.done hk uM) (fG su.done hk uM) O),.inr ⟨v,g,e,uQ,
   ⟨uL,uK,λ_=>l0,uK,uK,uK,uK,uK,uK,uK⟩⟩⟩
def zxK(st:St N K w)(tg:Tg N w)(su:qF w m v g e)(tm:fT m)(lo:iu w m v g e)(hk:m.op.kind=1)(p:m.pc=9):∃r,zZ w m v g e=some r/\Nc N K w m iu lK r:=by
 obtain⟨f1,f2,f3,f4,f5,f6,f7⟩:=vW st su;have tg1:=tg.mono (pY N);have l0:=lo.fi (.inl aw);unfold zZ;rw[gf aw,gf aw,gf aw,gf aw,gf aw,gf aw,gf aw,gk p];by_cases q:0<=zA e.head/\zA e.head<e.next.length
 ·rw[gk q]
  exact zQ O ⟨uX,st.mono aw aw,tg1,⟨tm.listen,f6.1,tm.link,tm.host,tm.path,tm.d0,tm.d1,tm.cfg,tm.mz⟩,rfl,rfl,jR.refl w _,qj w (wY (fG su.done hk uM) (fG su.done hk uM) O),.inr ⟨v,g,e,⟨su.world,su.zf,su.done,su.version,su.fH,su.zj,su.fE,su.end_,su.fL,su.other,q,su.listen,su.i,su.k⟩,
   ⟨uL,uK,λ_=>l0,uK,uK,uK,λ_=>⟨rfl,gR _⟩,uK,uK,uK⟩⟩⟩
 ·rw[gf q];exact zQ O ⟨uX,st.mono aw aw,tg1,⟨tm.listen,f6.1,tm.link,tm.host,tm.path,tm.d0,tm.d1,tm.cfg,(λh=>absurd ((show m.op.kind=6 from h).symm.trans hk) ar)⟩,rfl,rfl,jR.refl w _,qj w (wY (fG su.done hk uM) (fG su.done hk uM) O),.inr ⟨v,g,e,uQ,⟨uL,uK,uK,uK,uK,uK,uK,uK,λ_=>⟨by show(1:Int)<=4;decide,by show(4:Int)<=5;decide,λh=>absurd (show(4:Int)=1 from h) ar⟩,uK⟩⟩⟩
def Zj(f1:Slp.ft e=true){s:Int}(h0:0<=s)(h1:s<e.next.length):∃x,e.next[s.toNat]?=some x:=⟨_,dZ aw⟩
def YV(st:St N K w)(tg:Tg N w)(su:qF w m v g e)(tm:fT m)(lo:iu w m v g e)(hk:m.op.kind=1)(p:m.pc=10):∃r,zZ w m v g e=some r/\Nc N K w m iu lK r:=by
 obtain⟨f1,f2,f3,f4,f5,f6,f7⟩:=vW st su;have tg1:=tg.mono (pY N);have l0:=lo.fi (.inl aw);obtain⟨z1,z2⟩:=lo.slot (.inl p);have ss:=su.slot;obtain⟨x,hx⟩:=Zj f1 ss.1 ss.2;have hb:=(C2 tg su.at_).2 x (gh hx);unfold zZ;rw[gf aw,gf aw,gf aw,gf aw,gf aw,gf aw,gf aw,gf aw,gk p,hx,gF]
 exact zQ O ⟨uX,st.mono aw aw,tg1,⟨tm.listen,tm.word,by show -1<=x/\x<=2147483646;omega,tm.host,tm.path,tm.d0,tm.d1,tm.cfg,tm.mz⟩,rfl,rfl,jR.refl w _,qj w (wY (fG su.done hk uM) (fG su.done hk uM) O),.inr ⟨v,g,e,uQ,
  ⟨uL,uK,λ_=>l0,uK,uK,uK,λ_=>⟨z1,z2⟩,λ_ _=>hx,uK,uK⟩⟩⟩
def UK(f1:Slp.ft e=true)(f2:e.next.length<=4):Slp.zA e<=3:=by
 by_cases h:Slp.zA e<0
 ·omega
 ·have:=(Slp.OI f1 h).2.1;omega
def NN{x i:Int}{N:Nat}(h:x / 4294967296<=N)(hx:u64 x)(hN:N<=100000000)(h1: -1<=i)(h2:i<=2147483646):Slp.jb x i / 4294967296=x / 4294967296+1:=by
 have:=Slp.VM (x:=x) h1 h2;unfold u64 at hx;omega
def YW(st:St N K w)(tg:Tg N w)(su:qF w m v g e)(tm:fT m)(lo:iu w m v g e)(hk:m.op.kind=1)(hN:N<=100000000)(p:m.pc=11):∃r,zZ w m v g e=some r/\Nc N K w m iu lK r:=by
 obtain⟨f1,f2,f3,f4,f5,f6,f7⟩:=vW st su;have tg1:=tg.mono (pY N);have te:=C2 tg su.at_;have l0:=lo.fi (.inl aw);obtain⟨z1,z2⟩:=lo.slot (.inr p);have ss:=su.slot;unfold zZ;rw[gf aw,gf aw,gf aw,gf aw,gf aw,gf aw,gf aw,gf aw,gf aw,gk p];by_cases q:e.head=m.word
 ·have z3:=lo.link p q;have hh:Slp.zA e=m.slot:=by rw[z1,<-q];rfl
  have hx2:Slp.im e.next m.slot=m.link:=by unfold Slp.im;rw[z3];rfl
  have ct:=(Slp.HO (Slp.Bt f1).1 aw).2.1;rw[hh,hx2]at ct;have hd:Slp.zA (qV e (Slp.jb m.word m.link) e.zi)=m.link:=Slp.HA tm.link.1 tm.link.2
  have is2:Slp.ft (qV e (Slp.jb m.word m.link) e.zi)=true:=by
   unfold Slp.ft;rw[hd];simp only[gC,gM];exact⟨⟨⟨ct,f3⟩,f2⟩,f4⟩
  have nt:=NN (i:=m.link) te.1 f6.1 hN tm.link.1 tm.link.2;rw[q]at nt;obtain⟨q1,q2⟩:=YJ f6 f1 hh ss.1 hx2;rw[q]at q1 q2;have st2:=(st.mono aw aw:St (N+1) (K+1) w).lD su.at_ (e':=qV e (Slp.jb m.word m.link) e.zi) (tk:=g.zt) is2 O ⟨Slp.Iq tm.link.1 tm.link.2,f6.2⟩ f7 aO;rw[gk q];have ta:mr (qV e (Slp.jb m.word m.link) e.zi)=mr e+1:=by unfold mr;rw[q];exact nt
  exact zQ O ⟨aP,st2,CP tg1 su.at_ (e':=qV e (Slp.jb m.word m.link) e.zi) ⟨by have:=te.1;omega,te.2⟩,uO,rfl,rfl,wE su.at_ (e':=qV e (Slp.jb m.word m.link) e.zi) ⟨rfl,aw,λh=>by omega,λ_ _ _=>O⟩,
   oO (p:=1) (p':=2) (fG su.done hk uM) (fG su.done hk uM) (zxq su.at_ (e':=qV e (Slp.jb m.word m.link) e.zi) O ss.1 ss.2 q1 q2 O m.listen),.inr ⟨_,_,_,w7 (e':=qV e (Slp.jb m.word m.link) e.zi) (m':={m with pc:=12}) su O st2.jz O su.done O O O O O O O O,
   ⟨uL,uK,λ_=>l0,uK,uK,uK,uK,uK,uK,uK⟩⟩⟩
 ·rw[gf q]
  exact zQ O ⟨aQ,st.mono aw aw,tg1,uO,rfl,rfl,jR.refl w _,qj w (wY (fG su.done hk uM) (fG su.done hk uM) O),.inr ⟨v,g,e,uQ,
   ⟨uL,uK,λ_=>l0,uK,uK,uK,uK,uK,uK,uK⟩⟩⟩
def YX(st:St N K w)(tg:Tg N w)(su:qF w m v g e)(tm:fT m)(lo:iu w m v g e)(hk:m.op.kind=1)(hK:K<=1099511627776)(p:m.pc=12):∃r,zZ w m v g e=some r/\Nc N K w m iu lK r:=by
 obtain⟨f1,f2,f3,f4,f5,f6,f7⟩:=vW st su;have tg1:=tg.mono (pY N);have l0:=lo.fi (.inl aw);have hw:IntKind.i64.wrap (e.zi+1)=e.zi+1:=qb aw aw;have st2:=(st.mono aw aw:St (N+1) (K+1) w).lD su.at_ (e':=qV e e.head (e.zi+1)) (tk:=g.zt) (OJ f1 _ aw) O ⟨f6.1,f6.2.1,by show i64 (e.zi+1);unfold i64;omega⟩ f7 (by show e.zi+1<=_;omega);unfold zZ;rw[gf aw,gf aw,gf aw,gf aw,gf aw,gf aw,gf aw,gf aw,gf aw,gf aw,gk p,hw]
 exact zQ O ⟨tP,st2,CP tg1 su.at_ (e':=qV e e.head (e.zi+1)) (show A3 (N+1) e from C2 tg1 su.at_),uP,rfl,rfl,wE su.at_ (e':=qV e e.head (e.zi+1)) ⟨rfl,gR _,λ_=>O,λ_ _ _=>O⟩,
  oO (p:=2) (p':=3) (fG su.done hk uM) (fG su.done hk uM) (Ze su.at_ (e':=qV e e.head (e.zi+1)) O O f4 O m.slot m.listen),.inr ⟨_,_,_,w7 (e':=qV e e.head (e.zi+1)) (m':={m with answer:=wo m,pc:=20}) su O st2.jz O su.done O O O O O O O O,
  ⟨uL,uK,uK,uK,uK,uK,uK,uK,λ_=>⟨by show(1:Int)<=1;decide,by show(1:Int)<=5;decide,λ_=>⟨rfl,l0⟩⟩,uK⟩⟩⟩
def YY(st:St N K w)(tg:Tg N w)(su:qF w m v g e)(tm:fT m)(lo:iu w m v g e)(hk:m.op.kind=1)(p:m.pc=20):∃r,zZ w m v g e=some r/\Nc N K w m iu lK r:=by
 have kr:=Ul m.answer.kind;obtain⟨r2,hl,hc⟩:=Ma st su (pc:=21) kr.1 kr.2;have st2:=(st.mono aw aw:St (N+1) (K+1) w).count m.zf.toNat hl;have an:=lo.mz aw
 have ow:j7 m=j7 {m with pc:=21}:=by
  by_cases k1:m.answer.kind=1
  ·exact C5 (p:=3) (fG su.done hk uM) (fG su.done hk uM) O O O O O
  ·by_cases k2:0<=m.listen
   ·exact wY (fG su.done hk uM) (fG su.done hk uM) O
   ·exact kO (fG su.done hk uM) (fG su.done hk uM)
 unfold zZ;rw[gf aw,gf aw,gf aw,gf aw,gf aw,gf aw,gf aw,gf aw,gf aw,gf aw,gf aw,gk p,hc]
 exact zQ O ⟨tP,st2,tg.mono (pY N),uO,rfl,rfl,x9 (gR _) O aj O O O,CK O O O O O ow,.inr ⟨v,g,e,⟨qo.2 st2.jz,su.zf,su.done,su.version,su.fH,su.zj,su.fE,su.end_,su.fL,su.other,su.slot,su.listen,su.i,su.k⟩,
  ⟨uL,uK,uK,uK,uK,uK,uK,uK,λ_=>an,uK⟩⟩⟩
def YZ(st:St N K w)(tg:Tg N w)(su:qF w m v g e)(tm:fT m)(lo:iu w m v g e)(hk:m.op.kind=1)(p:m.pc=21):∃r,zZ w m v g e=some r/\Nc N K w m iu lK r:=by
 obtain⟨r2,hl,hc⟩:=Ma st su (k:=0) (pc:=if m.answer.kind=1\/m.listen<0 then 23 else 22) ar ar;have st2:=(st.mono aw aw:St (N+1) (K+1) w).count m.zf.toNat hl;have an:=lo.mz aw;unfold zZ;rw[gf aw,gf aw,gf aw,gf aw,gf aw,gf aw,gf aw,gf aw,gf aw,gf aw,gf aw,gf aw,gk p,hc];by_cases q:m.answer.kind=1\/m.listen<0
 ·rw[gk q]
  have ow:j7 m=j7 {m with pc:=23}:=by
   by_cases k1:m.answer.kind=1
   ·exact C5 (p:=3) (fG su.done hk uM) (fG su.done hk uM) O O O O O
   ·exact kO (fG su.done hk uM) (fG su.done hk uM)
  exact zQ O ⟨tP,st2,tg.mono (pY N),uO,rfl,rfl,x9 (gR _) O aj O O O,CK O O O O O ow,.inr ⟨v,g,e,⟨qo.2 st2.jz,su.zf,su.done,su.version,su.fH,su.zj,su.fE,su.end_,su.fL,su.other,su.slot,su.listen,su.i,su.k⟩,
   ⟨uL,uK,uK,uK,uK,uK,uK,uK,λ_=>an,uK⟩⟩⟩
 ·rw[gf q]
  exact zQ O ⟨tP,st2,tg.mono (pY N),uO,rfl,rfl,x9 (gR _) O aj O O O,CK O O O O O (wY (fG su.done hk uM) (fG su.done hk uM) O),.inr ⟨v,g,e,⟨qo.2 st2.jz,su.zf,su.done,su.version,su.fH,su.zj,su.fE,su.end_,su.fL,su.other,su.slot,su.listen,su.i,su.k⟩,
   ⟨uL,uK,λ_=>by show 0<=m.listen;omega,uK,uK,uK,uK,uK,λ_=>an,λ_ h=>q (.inl h)⟩⟩⟩
def Ef(ow:∀x,j7 m x<=Has w x){p:Nat}(h:ph m=p)(x:Key)(hx:1<=qe p m.version m.zj m.end_ m.slot m.listen x):1<=Has w x:=by
 have:=ow x;rw[jA h]at this;omega
def N2(ow:∀x,j7 m x<=Has w x){p:Nat}(h:ph m=p)(hp:1<=p/\p<=4):0<=m.listen/\∃x,w.zd[m.listen.toNat]?=some x/\1<=x.zi:=by
 have:=Ef ow h (.fi m.listen) (by simp[qe,hp]);simp only[Has]at this;split at this
 ·rename_i q;split at this
  ·rename_i x hx;exact⟨q,x,hx,aw⟩
  ·omega
 ·omega
def ZX(st:St N K w)(tg:Tg N w)(su:qF w m v g e)(tm:fT m)(lo:iu w m v g e)(hk:m.op.kind=1)(hK:K<=1099511627776)(ow:∀x,j7 m x<=Has w x)(p:m.pc=22):∃r,zZ w m v g e=some r/\Nc N K w m iu lK r:=by
 have l0:=lo.fi (.inr p);have k1:=lo.kind p;have p1:ph m=1:=(fG su.done hk uM);obtain⟨_,x,hx,x1⟩:=N2 ow p1 ar;have ca:=st.iy.fi x (gh hx);have hw:IntKind.i64.wrap (x.zi-1)=x.zi-1:=qb aw aw;have st2:=IH st su hx (x.zi-1) aw aw hK;have an:=lo.mz aw;unfold zZ wi;rw[gf aw,gf aw,gf aw,gf aw,gf aw,gf aw,gf aw,gf aw,gf aw,gf aw,gf aw,gf aw,gf aw,gk p,gf aw,hx,gF];unfold Bw;rw[hw]
 exact zQ O ⟨tP,st2,tg.mono (pY N),uO,rfl,rfl,DU hx O id,oO (p:=1) (p':=0) p1 (fG su.done hk uM) (NL l0 hx x1 O _ _ _ _ _ _ _ _ _),.inr ⟨v,g,e,⟨qo.2 st2.jz,su.zf,su.done,su.version,su.fH,su.zj,su.fE,su.end_,su.fL,su.other,su.slot,aq su.listen,su.i,su.k⟩,
  ⟨uL,uK,uK,uK,uK,uK,uK,uK,λ_=>an,uK⟩⟩⟩
def ZY(st:St N K w)(tg:Tg N w)(su:qF w m v g e)(tm:fT m)(lo:iu w m v g e)(hk:m.op.kind=1)(p:m.pc=23):∃r,zZ w m v g e=some r/\Nc N K w m iu lK r:=by
 have ep:=(qf.1 st.jz.ground).zo;have st2:=(st.mono aw aw:St (N+1) (K+1) w).nk m.zf.toNat (p:=0) aw aw;have an:=lo.mz aw
 have ow:j7 m=j7 {m with done:=true}:=by
  by_cases k1:m.answer.kind=1
  ·exact C5 (p:=3) (fG su.done hk uM) (MN O hk k1) O O O O O
  ·exact kO (fG su.done hk uM) (yQ O (λh=>k1 h.2))
 unfold zZ;rw[gf aw,gf aw,gf aw,gf aw,gf aw,gf aw,gf aw,gf aw,gf aw,gf aw,gf aw,gf aw,gf aw,gf aw,gk p];exact zQ O ⟨tN,st2,tg.mono (pY N),uP,rfl,rfl,x9 (gR _) aj O O O O,CK O O O O O ow,.inl ⟨rfl,an⟩⟩
def Vd(st:St N K w)(tg:Tg N w)(su:qF w m v g e)(tm:fT m)(lo:iu w m v g e)(hk:m.op.kind=1)(hN:N<=100000000)(hK:K<=1099511627776)(ow:∀x,j7 m x<=Has w x):∃r,zZ w m v g e=some r/\Nc N K w m iu lK r:=by
 have pc:=lo.pc;by_cases h3:m.pc<3
 ·exact Z0 st tg su tm lo hk h3
 rcases(by omega:m.pc=3\/m.pc=4\/m.pc=5\/m.pc=6\/m.pc=7\/m.pc=8\/m.pc=9\/m.pc=10\/m.pc=11\/m.pc=12\/m.pc=20\/m.pc=21\/m.pc=22\/m.pc=23) with p|p|p|p|p|p|p|p|p|p|p|p|p|p
 ·exact zxE st tg su tm lo hk hN p
 ·exact zxF st tg su tm lo hk hK p
 ·exact zxG st tg su tm lo hk p
 ·exact zxH st tg su tm lo hk p
 ·exact zxI st tg su tm lo hk p
 ·exact zxJ st tg su tm lo hk p
 ·exact zxK st tg su tm lo hk p
 ·exact YV st tg su tm lo hk p
 ·exact YW st tg su tm lo hk hN p
 ·exact YX st tg su tm lo hk hK p
 ·exact YY st tg su tm lo hk p
 ·exact YZ st tg su tm lo hk p
 ·exact ZX st tg su tm lo hk hK ow p
 ·exact ZY st tg su tm lo hk p
end
end Go.Wor
