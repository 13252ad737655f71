import Derived.Test.YtoeaoedlpmohoaaGreatS1
set_option linter.all false
set_option maxRecDepth 100000
set_option maxHeartbeats 4000000
namespace Go.Wor
open Go.Ab Go.Proofs Tryz Go.Hy Go.Gat Go.Nam Go.Hos Go.Con Go.Sna
inductive Key
 |slot (i j k s:Int)
 |act (i j k:Int)
 |lY (i:Int)
 |my (i:Int)
 |lock
def ph(m:lh):Nat:=
 if m.done=true then (if m.op.kind=1/\m.answer.kind=1 then 3 else 0)
 else if m.op.kind=1 then (if 5<=m.pc/\m.pc<=11 then 1 else if m.pc=12 then 2 else if 20<=m.pc then (if m.answer.kind=1 then 3 else if m.pc<=22/\0<=m.listen then 1 else 0) else 0)
 else if m.op.kind=2 then (if m.pc<=2 then 3 else if m.pc=3 then 4 else if m.pc=4 then 1 else 0)
 else if m.op.kind=3 then (if 1<=m.pc then 5 else 0)
 else if m.op.kind=5 then (if 1<=m.pc then 6 else 0)
 else 0
def qp(p:Nat)(i j k s l:Int):Key->Nat
 |.slot i' j' k' s'=>if (p=2\/p=3)/\i=i'/\j=j'/\k=k'/\s=s' then 1 else 0
 |.act i' j' k'=>if (p=3\/p=4)/\i=i'/\j=j'/\k=k' then 1 else 0
 |.lY l'=>if (1<=p/\p<=4)/\l=l' then 1 else 0
 |.my i'=>if p=5/\i=i' then 1 else 0
 |.lock=>if p=6 then 1 else 0
def xw(m:lh):Key->Nat:=qp (ph m) m.version m.zi m.end_ m.slot m.listen
def ot(a:lM):Key->Nat:=qp 3 a.version a.zi a.end_ a.slot a.listen
def jD{m:lh}{p:Nat}(h:ph m=p):xw m=qp p m.version m.zi m.end_ m.slot m.listen:=by unfold xw;rw[h]
def Cj(i j k s l:Int)(x:Key):qp 0 i j k s l x=0:=by cases x <;> simp[qp]
def Zm(i j k s l i' j' k' s':Int):qp 1 i j k s l=qp 1 i' j' k' s' l:=by funext x;cases x <;> simp[qp]
def Zn(i j k s l j' k' s' l':Int):qp 5 i j k s l=qp 5 i j' k' s' l':=by funext x;cases x <;> simp[qp]
def Zo(i j k s l i' j' k' s' l':Int):qp 6 i j k s l=qp 6 i' j' k' s' l':=by funext x;cases x <;> simp[qp]
def mJ{m:lh}{n:Nat}(hd:m.done=false)(hk:m.op.kind=1)(h:(if 5<=m.pc/\m.pc<=11 then 1 else if m.pc=12 then 2 else if 20<=m.pc then (if m.answer.kind=1 then 3 else if m.pc<=22/\0<=m.listen then 1 else 0) else 0)=n):ph m=n:=by
 unfold ph;rw[pw aJ,pA hk];exact h
def oy{m:lh}{n:Nat}(hd:m.done=false)(hk:m.op.kind=2)(h:(if m.pc<=2 then 3 else if m.pc=3 then 4 else if m.pc=4 then 1 else 0)=n):ph m=n:=by
 unfold ph;rw[pw aJ,pw aw,pA hk];exact h
def Ds{m:lh}{n:Nat}(hd:m.done=false)(hk:m.op.kind=3)(h:(if 1<=m.pc then 5 else 0)=n):ph m=n:=by
 unfold ph;rw[pw aJ,pw aw,pw aw,pA hk];exact h
def oB{m:lh}{n:Nat}(hd:m.done=false)(hk:m.op.kind=5)(h:(if 1<=m.pc then 6 else 0)=n):ph m=n:=by
 unfold ph;rw[pw aJ,pw aw,pw aw,pw aw,pA hk];exact h
def ID{m:lh}(hd:m.done=false)(h1:m.op.kind≠1)(h2:m.op.kind≠2)(h3:m.op.kind≠3)(h5:m.op.kind≠5):ph m=0:=by
 unfold ph;rw[pw aJ,pw h1,pw h2,pw h3,pw h5]
def vZ{m:lh}(hd:m.done=true)(h:¬(m.op.kind=1/\m.answer.kind=1)):ph m=0:=by
 unfold ph;rw[pA hd,pw h]
def Ui{m:lh}(hd:m.done=true)(hk:m.op.kind=1)(h:m.answer.kind=1):ph m=3:=by
 unfold ph;rw[pA hd,pA ⟨hk,h⟩]
def nS(w:Wor)(i j k:Int):Option En:=if 0<=i/\0<=j/\0<=k then wF w i j k else none
def nN(e:En)(s:Int):Nat:=if 0<=s/\s<e.next.length/\s∉(Slp.qo e).1 then 1 else 0
def Has(w:Wor):Key->Nat
 |.slot i j k s=>match nS w i j k with
  |some e=>nN e s
  |none=>0
 |.act i j k=>match nS w i j k with
  |some e=>e.zj.toNat
  |none=>0
 |.lY i=>if 0<=i then (match w.zf[i.toNat]? with
  |some l=>l.zj.toNat
  |none=>0) else 0
 |.my i=>if 0<=i/\i<w.zd.length/\i≠w.current/\∀r∈w.zr,r.version≠i then 1 else 0
 |.lock=>w.lock.toNat
def Mv(w w':Wor)(a b:Key->Nat):Prop:=∀x,Has w' x+a x=Has w x+b x
def VN{w:Wor}{m:lh}{v:lJ}{g:Gr}{e:En}(hat:m7 w m v g e):nS w m.version m.zi m.end_=some e:=by
 unfold nS;rw[pA ⟨hat.v0,hat.g0,hat.e0⟩];exact KF hat
def TX{w:Wor}{m:lh}{v:lJ}{g:Gr}{e:En}(hat:m7 w m v g e)(e':En)(tk i j k:Int):nS (AG w m v g e' tk) i j k=if i=m.version/\j=m.zi/\k=m.end_ then some e' else nS w i j k:=by
 have p1:=hat.v0;have p2:=hat.g0;have p3:=hat.e0;unfold nS;rw[J1 hat];by_cases h:0<=i/\0<=j/\0<=k
 ·rw[pA h,pA h];by_cases q:i=m.version/\j=m.zi/\k=m.end_
  ·rw[pA q,pA (by rw[q.1,q.2.1,q.2.2];exact⟨rfl,rfl,rfl⟩)]
  ·rw[pw q,pw (λz=>q aw)]
 ·rw[pw h,pw h,pw (λz=>h aw)]
def S8{w w':Wor}(h:w'.zd=w.zd)(i j k:Int):nS w' i j k=nS w i j k:=by unfold nS wF;rw[h]
def qD(w:Wor){a b:Key->Nat}(h:a=b):Mv w w a b:=λx=>by rw[h]
def Gk{w w':Wor}{a b:Key->Nat}(h1:w'.zd=w.zd)(h2:w'.zf=w.zf)(h3:w'.zr=w.zr)(h4:w'.current=w.current)(h5:w'.lock=w.lock)(h:a=b):Mv w w' a b:=λx=>by
 rw[h];cases x with
 |slot i j k s=>simp only[Has,S8 h1]
 |act i j k=>simp only[Has,S8 h1]
 |lY i=>simp only[Has,h2]
 |my i=>simp only[Has,h1,h3,h4]
 |lock=>simp only[Has,h5]
section
variable {w:Wor} {m:lh} {v:lJ} {g:Gr} {e e':En} {tk:Int}
def zxF(hat:m7 w m v g e)(e':En)(tk:Int)(x:Key):Has (AG w m v g e' tk) x=match x with
  |.slot i j k s=>if i=m.version/\j=m.zi/\k=m.end_ then nN e' s else Has w x
  |.act i j k=>if i=m.version/\j=m.zi/\k=m.end_ then e'.zj.toNat else Has w x
  |x=>Has w x:=by
 cases x with
 |slot i j k s=>
  simp only[Has,TX hat];by_cases q:i=m.version/\j=m.zi/\k=m.end_
  ·rw[pA q,pA q]
  ·rw[pw q,pw q]
 |act i j k=>
  simp only[Has,TX hat];by_cases q:i=m.version/\j=m.zi/\k=m.end_
  ·rw[pA q,pA q]
  ·rw[pw q,pw q]
 |lY i=>rfl
 |my i=>simp only[Has,AG,rX]
 |lock=>rfl
def NV(hat:m7 w m v g e)(s:Int):Has w (.slot m.version m.zi m.end_ s)=nN e s:=by simp only[Has,VN hat]
def KT(hat:m7 w m v g e):Has w (.act m.version m.zi m.end_)=e.zj.toNat:=by simp only[Has,VN hat]
def IA(hat:m7 w m v g e){a b:Key->Nat}(hs:∀s,nN e' s+a (.slot m.version m.zi m.end_ s)=nN e s+b (.slot m.version m.zi m.end_ s))(ha:e'.zj.toNat+a (.act m.version m.zi m.end_)=e.zj.toNat+b (.act m.version m.zi m.end_))
 (h:∀x,(∀s,x≠.slot m.version m.zi m.end_ s)->x≠.act m.version m.zi m.end_->a x=b x):Mv w (AG w m v g e' tk) a b:=λx=>by
 rw[zxF hat];cases x with
 |slot i j k s=>
  dsimp only;by_cases q:i=m.version/\j=m.zi/\k=m.end_
  ·rw[pA q];obtain⟨rfl,rfl,rfl⟩:=q;rw[NV hat];exact hs s
  ·rw[pw q,h (.slot i j k s) (λs' z=>q (by cases z;exact⟨rfl,rfl,rfl⟩)) (λz=>nomatch z)]
 |act i j k=>
  dsimp only;by_cases q:i=m.version/\j=m.zi/\k=m.end_
  ·rw[pA q];obtain⟨rfl,rfl,rfl⟩:=q;rw[KT hat];exact ha
  ·rw[pw q,h (.act i j k) (λs' z=>nomatch z) (λz=>q (by cases z;exact⟨rfl,rfl,rfl⟩))]
 |lY i=>dsimp only;rw[h (.lY i) (λs' z=>nomatch z) (λz=>nomatch z)]
 |my i=>dsimp only;rw[h (.my i) (λs' z=>nomatch z) (λz=>nomatch z)]
 |lock=>dsimp only;rw[h (.lock) (λs' z=>nomatch z) (λz=>nomatch z)]
def V0(hat:m7 w m v g e)(hl:e'.next.length=e.next.length)(hf:(Slp.qo e').1=(Slp.qo e).1)(ha:e'.zj=e.zj){a b:Key->Nat}(h:a=b):Mv w (AG w m v g e' tk) a b:=
 IA hat (λs=>by rw[h];unfold nN;rw[hl,hf]) (by rw[h,ha]) λx _ _=>by rw[h]
def Ze(hat:m7 w m v g e)(hl:e'.next.length=e.next.length){s:Int}(h0:0<=s)(h1:s<e.next.length)(hf:(Slp.qo e).1=s::(Slp.qo e').1)(hn:s∉(Slp.qo e').1)(ha:e'.zj=e.zj)(l:Int):Mv w (AG w m v g e' tk) (qp 1 m.version m.zi m.end_ s l) (qp 2 m.version m.zi m.end_ s l):=by
 refine IA hat (λt=>?_) (by simp[qp,ha]) λx q1 q2=>?_
 ·unfold nN;rw[hl,hf];simp only[qp,rO,fj];by_cases q:s=t
  ·subst q;simp[h0,h1,hn]
  ·have q':¬t=s:=λz=>q z.symm
   simp[q,q']
 ·cases x with
  |slot i j k t=>
   simp only[qp];rw[pw aj,pw (λz=>q1 t (by rw[z.2.1,z.2.2.1,z.2.2.2.1]))]
  |act i j k=>simp[qp]
  |lY i=>simp[qp]
  |my i=>simp[qp]
  |lock=>simp[qp]
def XL(hat:m7 w m v g e)(hl:e'.next.length=e.next.length){s:Int}(h0:0<=s)(h1:s<e.next.length)(hf:(Slp.qo e').1=s::(Slp.qo e).1)(hn:s∉(Slp.qo e).1)(ha:e'.zj=e.zj)(l:Int):Mv w (AG w m v g e' tk) (qp 3 m.version m.zi m.end_ s l) (qp 4 m.version m.zi m.end_ s l):=by
 refine IA hat (λt=>?_) (by simp[qp,ha]) λx q1 q2=>?_
 ·unfold nN;rw[hl,hf];simp only[qp,rO,fj];by_cases q:s=t
  ·subst q;simp[h0,h1,hn]
  ·have q':¬t=s:=λz=>q z.symm
   simp[q,q']
 ·cases x with
  |slot i j k t=>
   simp only[qp];rw[pw (λz=>q1 t (by rw[z.2.1,z.2.2.1,z.2.2.2.1])),pw aj]
  |act i j k=>simp[qp]
  |lY i=>simp[qp]
  |my i=>simp[qp]
  |lock=>simp[qp]
def Yy(hat:m7 w m v g e)(hl:e'.next.length=e.next.length)(hf:(Slp.qo e').1=(Slp.qo e).1)(h0:0<=e.zj)(ha:e'.zj=e.zj+1)(s l:Int):Mv w (AG w m v g e' tk) (qp 2 m.version m.zi m.end_ s l) (qp 3 m.version m.zi m.end_ s l):=by
 refine IA hat (λt=>by unfold nN;rw[hl,hf];simp[qp]) (by simp[qp,ha];omega) λx q1 q2=>?_
 cases x with
 |slot i j k t=>simp[qp]
 |act i j k=>
  simp only[qp];rw[pw aj,pw (λz=>q2 (by rw[z.2.1,z.2.2.1,z.2.2.2]))]
 |lY i=>simp[qp]
 |my i=>simp[qp]
 |lock=>simp[qp]
def Yw(hat:m7 w m v g e)(hl:e'.next.length=e.next.length)(hf:(Slp.qo e').1=(Slp.qo e).1)(h0:1<=e.zj)(ha:e'.zj=e.zj-1)(s l:Int):Mv w (AG w m v g e' tk) (qp 4 m.version m.zi m.end_ s l) (qp 1 m.version m.zi m.end_ s l):=by
 refine IA hat (λt=>by unfold nN;rw[hl,hf];simp[qp]) (by simp[qp,ha];omega) λx q1 q2=>?_
 cases x with
 |slot i j k t=>simp[qp]
 |act i j k=>
  simp only[qp];rw[pw (λz=>q2 (by rw[z.2.1,z.2.2.1,z.2.2.2])),pw aj]
 |lY i=>simp[qp]
 |my i=>simp[qp]
 |lock=>simp[qp]
end
def PG{w:Wor}{i:Int}{x y:mj}(hi:0<=i)(hx:w.zf[i.toNat]?=some x){a b:Key->Nat}(h0:y.zj.toNat+a (.lY i)=x.zj.toNat+b (.lY i))(h:∀k,k≠.lY i->a k=b k):Mv w {w with zf:=w.zf.set i.toNat y} a b:=λk=>by
 cases k with
 |lY n=>
  by_cases q:n=i
  ·subst q;simp only[Has];rw[pA hi,pA hi,pC (gZ.1 hx).1,hx];exact h0
  ·rw[h (.lY n) (λz=>q (by cases z;rfl))];simp only[Has];by_cases n0:0<=n
   ·rw[pA n0,pA n0,pX aw]
   ·rw[pw n0,pw n0]
 |slot a' b' c s=>rw[h (.slot a' b' c s) (λz=>nomatch z)];rfl
 |act a' b' c=>rw[h (.act a' b' c) (λz=>nomatch z)];rfl
 |my n=>rw[h (.my n) (λz=>nomatch z)];rfl
 |lock=>rw[h .lock (λz=>nomatch z)];rfl
def zx7{w:Wor}{i:Int}{x y:mj}(hi:0<=i)(hx:w.zf[i.toNat]?=some x)(h0:0<=x.zj)(hy:y.zj=x.zj+1)(a b c d a' b' c' d' l:Int):Mv w {w with zf:=w.zf.set i.toNat y} (qp 0 a b c d l) (qp 1 a' b' c' d' i):=by
 refine PG hi hx (by simp[qp];omega) λk q=>?_
 cases k with
 |lY n=>simp only[qp];rw[pw aj,pw (λz=>q (by rw[z.2]))]
 |slot a' b' c s=>simp[qp]
 |act a' b' c=>simp[qp]
 |my n=>simp[qp]
 |lock=>simp[qp]
def UW{w:Wor}{i:Int}{x y:mj}(hi:0<=i)(hx:w.zf[i.toNat]?=some x)(h0:1<=x.zj)(hy:y.zj=x.zj-1)(a b c d a' b' c' d' l:Int):Mv w {w with zf:=w.zf.set i.toNat y} (qp 1 a b c d i) (qp 0 a' b' c' d' l):=by
 refine PG hi hx (by simp[qp];omega) λk q=>?_
 cases k with
 |lY n=>simp only[qp];rw[pw (λz=>q (by rw[z.2])),pw aj]
 |slot a' b' c s=>simp[qp]
 |act a' b' c=>simp[qp]
 |my n=>simp[qp]
 |lock=>simp[qp]
def Ty{w:Wor}{i:Int}{x y:mj}(hi:0<=i)(hx:w.zf[i.toNat]?=some x)(hy:y.zj=x.zj){a b:Key->Nat}(h:a=b):Mv w {w with zf:=w.zf.set i.toNat y} a b:=
 PG hi hx (by rw[h,hy]) λ_ _=>by rw[h]
def Au{m m':lh}(h:ph m=0)(h':ph m'=0):xw m=xw m':=by
 funext x
 rw[jD h,jD h',Cj,Cj]
def Bg{m m':lh}(h:ph m=1)(h':ph m'=1)(hl:m'.listen=m.listen):xw m=xw m':=by
 rw[jD h,jD h',hl];exact Zm ..
def GY{p:Nat}{m m':lh}(h:ph m=p)(h':ph m'=p)(h1:m'.version=m.version)(h2:m'.zi=m.zi)(h3:m'.end_=m.end_)(h4:m'.slot=m.slot)(h5:m'.listen=m.listen):xw m=xw m':=by
 rw[jD h,jD h',h1,h2,h3,h4,h5]
def Z9{m m':lh}(h:ph m=5)(h':ph m'=5)(hl:m'.version=m.version):xw m=xw m':=by
 rw[jD h,jD h',hl];exact Zn ..
def Bb{m m':lh}(h:ph m=6)(h':ph m'=6):xw m=xw m':=by
 rw[jD h,jD h'];exact Zo ..
def C9{w w':Wor}{m m':lh}{p p':Nat}(h:ph m=p)(h':ph m'=p')(x:Mv w w' (qp p m.version m.zi m.end_ m.slot m.listen) (qp p' m'.version m'.zi m'.end_ m'.slot m'.listen)):Mv w w' (xw m) (xw m'):=by
 rw[jD h,jD h'];exact x
def AO(e:En):Int:=e.head / 4294967296
def Eo(N:Nat)(e:En):Prop:=AO e<=N/\∀x∈e.next, -1<=x/\x<=3
def Tg(N:Nat)(w:Wor):Prop:=∀v∈w.zd,∀g∈v.zp,∀e∈g.ends,Eo N e
def Tg.mono{N N':Nat}{w:Wor}(h:Tg N w)(hN:N<=N'):Tg N' w:=λv hv g hg e he=>⟨by have:=(h v hv g hg e he).1;omega,(h v hv g hg e he).2⟩
structure FG(e e':En)(o:Int->Nat):Prop where
 len:e'.next.length=e.next.length
 tag:AO e<=AO e'
 head:AO e'=AO e->e'.head=e.head
 next:∀s,0<=s->o s=0->e'.next[s.toNat]?=e.next[s.toNat]?
def FG.refl(e:En)(o:Int->Nat):FG e e o:=⟨rfl,p8 _,λ_=>O,λ_ _ _=>O⟩
structure GW(g g':Gr)(o:Nat->Int->Nat):Prop where
 len:g'.ends.length=g.ends.length
 ends : ∀(k : Nat) e e', g.ends[k]? = some e -> g'.ends[k]? = some e' -> FG e e' (o k)
def GW.refl(g:Gr)(o:Nat->Int->Nat):GW g g o:=⟨rfl,λk e e' h h'=>by rw[h]at h';cases h';exact FG.refl e _⟩
structure D9(v v':lJ)(o:Nat->Nat->Int->Nat):Prop where
 snap:v'.snap=v.snap
 len:v'.zp.length=v.zp.length
 Dp:∀(j:Nat) g g',v.zp[j]?=some g->v'.zp[j]?=some g'->GW g g' (o j)
def D9.refl(v:lJ)(o:Nat->Nat->Int->Nat):D9 v v o:=⟨rfl,rfl,λj g g' h h'=>by rw[h]at h';cases h';exact GW.refl g _⟩
structure xn(w w':Wor)(o:Key->Nat):Prop where
 zn:w.zn<=w'.zn
 pins:w'.pins.length=w.pins.length
 counts:w'.counts.length=w.counts.length
 wC:w.zd.length<=w'.zd.length
 my:∀(i:Nat) v v',w.zd[i]?=some v->w'.zd[i]?=some v'->D9 v v' λj k s=>o (.slot i j k s)
 lY:w'.zf.length=w.zf.length
 AK:∀(i:Nat) l l',w.zf[i]?=some l->w'.zf[i]?=some l'->l'.name=l.name/\(l.drain=true->l'.drain=true)
 lim:w.zr.length<=w'.zr.length
 zr:∀(i:Nat) r r',w.zr[i]?=some r->w'.zr[i]?=some r'->r'.version=r.version/\r'.at_=r.at_/\(o .lock=0->r'.gone=r.gone)
def j3{α:Type}{l:List α}{i:Nat}{x y:α}(h:l[i]?=some x)(h':l[i]?=some y):y=x:=by rw[h]at h';cases h';rfl
def va{w w':Wor}{o:Key->Nat}(h0:w.zn<=w'.zn)(h1:w'.pins.length=w.pins.length)(h2:w'.counts.length=w.counts.length)(h3:w'.zd=w.zd)(h4:w'.zf=w.zf)(h5:w'.zr=w.zr):xn w w' o:=by
 refine⟨h0,h1,h2,by rw[h3];exact pI _,λi v v' h h'=>?_,by rw[h4],λi l l' h h'=>?_,by rw[h5];exact pI _,λi r r' h h'=>?_⟩
 ·rw[h3]at h';rw[j3 h h'];exact D9.refl v _
 ·rw[h4]at h';rw[j3 h h'];exact⟨rfl,id⟩
 ·rw[h5]at h';rw[j3 h h'];exact gR
def xn.refl(w:Wor)(o:Key->Nat):xn w w o:=va (p8 _) O O O O O
def Ga{w:Wor}{m:lh}{v:lJ}{g:Gr}{e e':En}{tk:Int}{o:Key->Nat}(hat:m7 w m v g e)(h:FG e e' λs=>o (.slot m.version m.zi m.end_ s)):xn w (AG w m v g e' tk) o:=by
 have p1:=hat.v0;have p2:=hat.g0;have p3:=hat.e0;refine⟨p8 _,rfl,rfl,by show _<=(w.zd.set _ _).length;rw[rX];exact pI _,λi v1 v2 h1 h2=>?_,rfl,λi l l' h1 h2=>?_,pI _,λi r r' h1 h2=>?_⟩
 ·rcases jG h2 with⟨rfl,rfl,_⟩|⟨_,h2⟩
  ·rw[j3 hat.at_ h1];refine⟨rfl,aj,λj g1 g2 h3 h4=>?_⟩;rcases jG h4 with⟨rfl,rfl,_⟩|⟨_,h4⟩
   ·rw[j3 hat.mn h3];refine⟨aj,λk e1 e2 h5 h6=>?_⟩;rcases jG h6 with⟨rfl,rfl,_⟩|⟨_,h6⟩
    ·rw[j3 hat.mM h5,tq p1,tq p2,tq p3];exact h
    ·rw[j3 h5 h6];exact FG.refl e1 _
   ·rw[j3 h3 h4];exact GW.refl g1 _
  ·rw[j3 h1 h2];exact D9.refl v1 _
 ·rw[j3 h1 h2];exact⟨rfl,id⟩
 ·rw[j3 h1 h2];exact gR
def Ih{w:Wor}{i:Nat}{x y:mj}{o:Key->Nat}(hx:w.zf[i]?=some x)(hn:y.name=x.name)(hd:x.drain=true->y.drain=true):xn w {w with zf:=w.zf.set i y} o:=by
 refine⟨p8 _,rfl,rfl,pI _,λi v1 v2 h1 h2=>?_,aj,λj l l' h1 h2=>?_,pI _,λi r r' h1 h2=>?_⟩
 ·rw[j3 h1 h2];exact D9.refl v1 _
 ·rcases jG h2 with⟨rfl,rfl,_⟩|⟨_,h2⟩
  ·rw[j3 hx h1];exact⟨hn,hd⟩
  ·rw[j3 h1 h2];exact⟨rfl,id⟩
 ·rw[j3 h1 h2];exact gR
def UQ{α:Type}{l l2:List α}{i:Nat}{x y:α}(h:l[i]?=some x)(h':(l++l2)[i]?=some y):y=x:=by
 rw[pD (gZ.1 h).1]at h';exact j3 h h'
def zvi{w:Wor}{v:lJ}{n:Int}{o:Key->Nat}:xn w {w with current:=n,zd:=w.zd++[v]} o:=by
 refine⟨p8 _,rfl,rfl,aj,λi v1 v2 h1 h2=>?_,rfl,λi l l' h1 h2=>?_,pI _,λi r r' h1 h2=>?_⟩
 ·rw[UQ h1 h2];exact D9.refl v1 _
 ·rw[j3 h1 h2];exact⟨rfl,id⟩
 ·rw[j3 h1 h2];exact gR
def zxS{w:Wor}{x:mw}{o:Key->Nat}:xn w {w with zr:=w.zr++[x]} o:=by
 refine⟨p8 _,rfl,rfl,pI _,λi v1 v2 h1 h2=>?_,rfl,λi l l' h1 h2=>?_,aj,λi r r' h1 h2=>?_⟩
 ·rw[j3 h1 h2];exact D9.refl v1 _
 ·rw[j3 h1 h2];exact⟨rfl,id⟩
 ·rw[UQ h1 h2];exact gR
def zr4{w:Wor}{i k:Nat}{v:lJ}{x:mw}{o:Key->Nat}(ho:o .lock=1)(hv:w.zd[k]?=some v)(hx:w.zr[i]?=some x):xn w {w with zd:=w.zd.set k (Cg v),zr:=w.zr.set i (wb x)} o:=by
 refine⟨p8 _,rfl,rfl,aj,λj v1 v2 h1 h2=>?_,rfl,λi l l' h1 h2=>?_,aj,λj r r' h1 h2=>?_⟩
 ·rcases jG h2 with⟨rfl,rfl,_⟩|⟨_,h2⟩
  ·rw[j3 hv h1];exact⟨rfl,rfl,λj g g' h3 h4=>by rw[j3 h3 (show v.zp[j]?=some g' from h4)];exact GW.refl g _⟩
  ·rw[j3 h1 h2];exact D9.refl v1 _
 ·rw[j3 h1 h2];exact⟨rfl,id⟩
 ·rcases jG h2 with⟨rfl,rfl,_⟩|⟨_,h2⟩
  ·rw[j3 hx h1];exact⟨rfl,rfl,λz=>by omega⟩
  ·rw[j3 h1 h2];exact gR
structure nB(w:Wor)(m:lh)(v:lJ)(g:Gr)(e:En):Prop where
 pc:(0<=m.pc/\m.pc<=12)\/(20<=m.pc/\m.pc<=23)
 ep:m.pc=1\/m.pc=2->0<=m.zn/\m.zn<=w.zn
 lY:(4<=m.pc/\m.pc<=12)\/m.pc=22->0<=m.listen
 early:4<=m.pc/\m.pc<=5->m.zi=0/\m.end_=0/\m.other=0
 l7:4<=m.pc/\m.pc<=8->m.slot=0
 draw:m.pc=6->∃c,v.snap.zm[m.zi.toNat]?=some c/\(lu c).length≠0
 slot:m.pc=10\/m.pc=11->m.slot=zG m.word/\m.word / 4294967296<=AO e
 link:m.pc=11->e.head=m.word->e.next[m.slot.toNat]?=some m.link
 AY:20<=m.pc->1<=m.answer.kind/\m.answer.kind<=5/\(m.answer.kind=1->m.answer=DW m/\0<=m.listen)
 kind:m.pc=22->m.answer.kind≠1
structure L5(w:Wor)(m:lh)(v:lJ)(g:Gr)(e:En):Prop where
 pc:(0<=m.pc/\m.pc<=4)\/m.pc=9
 lY:m.pc<=4->0<=m.listen
 tag:m.pc=1\/m.pc=2->m.word / 4294967296<=AO e/\zG m.word<=3
 next:m.pc=2->e.next[m.slot.toNat]?=some (zG m.word)
structure L6(w:Wor)(m:lh)(v:lJ)(g:Gr)(e:En):Prop where
 pc:0<=m.pc/\m.pc<=2
 ep:m.pc=2->0<=m.zn/\m.zn<=w.zn
structure Jq(w:Wor)(m:lh)(v:lJ)(g:Gr)(e:En):Prop where
 pc:(0<=m.pc/\m.pc<=6)\/(8<=m.pc/\m.pc<=10)
 BU:m.pc=2->m.i<w.pins.length
 lim:m.pc=5\/m.pc=6->∃r,w.zr[m.i.toNat]?=some r/\r.version=m.version/\r.gone=false
 act:m.pc=5->m.k<(xJ v).length
 lY:m.pc=9\/m.pc=10->∃l,w.zf[m.i.toNat]?=some l/\l.drain=true
structure Hx(w:Wor)(m:lh)(v:lJ)(g:Gr)(e:En):Prop where
 pc:m.pc=0
 k:m.k<6
 i:m.i<w.counts.length
def Lc(w:Wor)(m:lh)(v:lJ)(g:Gr)(e:En):Prop:=(m.op.kind=1/\nB w m v g e)\/(m.op.kind=2/\L5 w m v g e)\/(m.op.kind=3/\L6 w m v g e)\/(m.op.kind=4/\m.pc=0)\/(m.op.kind=5/\Jq w m v g e)\/(m.op.kind=6/\Hx w m v g e)
def Ao(m:lh):Prop:=1<=m.answer.kind/\m.answer.kind<=5/\(m.answer.kind=1->m.answer=DW m/\0<=m.listen)
abbrev QO(m:lh):lM:=⟨6,m.version,m.zi,m.end_,m.slot,m.listen,0,⟨0,0,0,0,0,0⟩⟩
def Qd(m:lh):Prop:=m.answer=QO m/\m.pc=4\/m.answer=Ah 7/\m.pc=9
def Fe(m:lh):Prop:=7<=m.answer.kind/\m.answer.kind<=13
def Jp(m:lh):Prop:=(m.op.kind=1/\Ao m)\/(m.op.kind=2/\Qd m)\/(3<=m.op.kind/\m.op.kind<=6/\Fe m)
structure Nc(N K:Nat)(w:Wor)(m:lh)(L:Wor->lh->lJ->Gr->En->Prop)(F:lh->Prop)(r:Wor×lh×lD):Prop where
 ev:r.2.2.access≠0
 st:St (N+1) (K+1) r.1
 tg:Tg (N+1) r.1
 tm:nh r.2.1
 op:r.2.1.op=m.op
 th:r.2.1.zg=m.zg
 keep:xn w r.1 (xw m)
 mv:Mv w r.1 (xw m) (xw r.2.1)
 go:(r.2.1.done=true/\F r.2.1)\/∃v g e,ja r.1 r.2.1 v g e/\L r.1 r.2.1 v g e
def GH{N:Nat}{w:Wor}{m:lh}{v:lJ}{g:Gr}{e e':En}{tk:Int}(h:Tg N w)(hat:m7 w m v g e)(h':Eo N e'):Tg N (AG w m v g e' tk):=λv2 hv g2 hg e2 he=>by
 have mv:=pq hat.at_;have mg:=pq hat.mn;rcases mem_set hv with hv|rfl
 ·exact h v2 hv g2 hg e2 he
 ·rcases mem_set hg with hg|rfl
  ·exact h v mv g2 hg e2 he
  ·rcases mem_set he with he|rfl
   ·exact h v mv g mg e2 he
   ·exact h'
def G7{N:Nat}{w:Wor}{m:lh}{v:lJ}{g:Gr}{e:En}(h:Tg N w)(hat:m7 w m v g e):Eo N e:=h v (pq hat.at_) g (pq hat.mn) e (pq hat.mM)
section
variable {N K:Nat} {w:Wor} {m:lh} {v:lJ} {g:Gr} {e:En}
def XF(st:St N K w)(tg:Tg N w)(su:ja w m v g e)(tm:nh m)(lo:nB w m v g e)(hk:m.op.kind=1)(h3:m.pc<3):∃r,zY w m v g e=some r/\Nc N K w m nB Ao r:=by
 have gw:=st.jn;have ge:=qs.1 gw.ground;have hep:=ge.zn;have st1:St (N+1) (K+1) w:=st.mono aw aw;have tg1:=tg.mono (sH N);have lp:=lo.pc;unfold zY;rw[pA h3];unfold AN;rcases(by omega:m.pc=0\/m.pc=1\/m.pc=2) with p|p|p
 ·rw[pA p];exact zX O ⟨uY,st1,tg1,uO,rfl,rfl,xn.refl w _,qD w (Au (mJ su.done hk uM) (mJ su.done hk uM)),.inr ⟨v,g,e,uQ,⟨uL,λ_=>⟨hep.1,p8 _⟩,uK,uK,uK,uK,uK,uK,uK,uK⟩⟩⟩
 ·have he:=lo.ep (.inl p);have hw:IntKind.i64.wrap (m.zn+1)=m.zn+1:=qi aw aw;rw[pw aw,pA p,hw];have sp:=st1.BU m.zg.toNat (p:=m.zn+1) aw aw
  exact zX O ⟨tU,sp,tg1,uO,rfl,rfl,va (p8 _) aj O O O O,Gk O O O O O (Au (mJ su.done hk uM) (mJ su.done hk uM)),.inr ⟨v,g,e,⟨qO.2 sp.jn,aq su.zg,su.done,su.version,su.mu,su.zi,su.mn,su.end_,su.mM,su.other,su.slot,su.listen,su.i,su.k⟩,
   ⟨uL,λ_=>he,uK,uK,uK,uK,uK,uK,uK,uK⟩⟩⟩
 ·rw[pw aw,pw aw,pA p];by_cases q:w.zn=m.zn
  ·rw[pA q];exact zX O ⟨uY,st1,tg1,uO,rfl,rfl,xn.refl w _,qD w (Au (mJ su.done hk uM) (mJ su.done hk uM)),.inr ⟨v,g,e,uQ,⟨uL,uK,uK,uK,uK,uK,uK,uK,uK,uK⟩⟩⟩
  ·rw[pw q];exact zX O ⟨uY,st1,tg1,uO,rfl,rfl,xn.refl w _,qD w (Au (mJ su.done hk uM) (mJ su.done hk uM)),.inr ⟨v,g,e,uQ,⟨uL,λ_=>⟨hep.1,p8 _⟩,uK,uK,uK,uK,uK,uK,uK,uK⟩⟩⟩
def Zp(st:St N K w)(tg:Tg N w)(su:ja w m v g e)(tm:nh m)(lo:nB w m v g e)(hk:m.op.kind=1)(hN:N<=100000000)(p:m.pc=3):∃r,zY w m v g e=some r/\Nc N K w m nB Ao r:=by
 have gw:=st.jn;have st1:St (N+1) (K+1) w:=st.mono aw aw;have tg1:=tg.mono (sH N);have pr:=SM w.zf m.op.listen;have hl:=st.ty.lY;have cu:=gw.current;obtain⟨v',hv'⟩:∃v',w.zd[w.current.toNat]?=some v':=⟨_,pa aw⟩;have gv:=(gw.my _ v' hv').1;have h0:0<v'.zp.length:=aF
 obtain⟨g',e',hg,he,l1,l2⟩:=Gw gv h0;unfold zY;rw[pw aw,pA p];by_cases q:zD w.zf m.op.listen<0
 ·rw[pA q];refine zX O ⟨uY,st1,tg1,⟨aK,tm.word,tm.link,tm.host,tm.path,tm.d0,tm.d1,tm.cfg,(λh=>absurd ((show m.op.kind=6 from h).symm.trans hk) ar)⟩,rfl,rfl,xn.refl w _,qD w (Au (mJ su.done hk uM) (mJ su.done hk ?_)),.inr ⟨v',g',e',⟨su.world,su.zg,su.done,cu,hv',⟨p8 _,aL⟩,hg,⟨p8 _,aL⟩,he,⟨p8 _,aL⟩,⟨p8 _,aL⟩,pr,su.i,su.k⟩,⟨uL,uK,uK,uK,uK,uK,uK,uK,λ_=>⟨by show(1:Int)<=2;decide,by show(2:Int)<=5;decide,λh=>absurd (show(2:Int)=1 from h) ar⟩,uK⟩⟩⟩;dsimp only;(repeat' split) <;> omega
 ·rw[pw q]
  exact zX O ⟨uY,st1,tg1,⟨aK,tm.word,tm.link,tm.host,tm.path,tm.d0,tm.d1,tm.cfg,tm.AY⟩,rfl,rfl,xn.refl w _,qD w (Au (mJ su.done hk uM) (mJ su.done hk uM)),.inr ⟨v',g',e',⟨su.world,su.zg,su.done,cu,hv',⟨p8 _,aL⟩,hg,⟨p8 _,aL⟩,he,⟨p8 _,aL⟩,⟨p8 _,aL⟩,pr,su.i,su.k⟩,
   ⟨uL,uK,λ_=>by show 0<=zD w.zf m.op.listen;omega,λ_=>⟨rfl,rfl,rfl⟩,λ_=>O,uK,uK,uK,uK,uK⟩⟩⟩
def Zq(st:St N K w)(tg:Tg N w)(su:ja w m v g e)(tm:nh m)(lo:nB w m v g e)(hk:m.op.kind=1)(hK:K<=1099511627776)(p:m.pc=4):∃r,zY w m v g e=some r/\Nc N K w m nB Ao r:=by
 have gw:=st.jn;have tg1:=tg.mono (sH N);have l0:=lo.lY (.inl aw);have sl:=su.listen;obtain⟨x,hx⟩:∃x,w.zf[m.listen.toNat]?=some x:=⟨_,pa aw⟩;have li:=Iy (gw.lY _ x hx).1;have ca:=st.nI.lY x (pq hx);have hw:IntKind.i64.wrap (x.zj+1)=x.zj+1:=qi aw aw;have st2:=ON st su hx (x.zj+1) aw aw hK;unfold zY vW;rw[pw aw,pw aw,pA p,pw aw,hx,pM];unfold QY;rw[hw]
 exact zX O ⟨tR,st2,tg1,uO,rfl,rfl,Ih hx O id,C9 (p:=0) (p':=1) (mJ su.done hk uM) (mJ su.done hk uM) (zx7 l0 hx li.2.1 O _ _ _ _ _ _ _ _ _),.inr ⟨v,g,e,⟨qO.2 st2.jn,su.zg,su.done,su.version,su.mu,su.zi,su.mn,su.end_,su.mM,su.other,su.slot,aq su.listen,su.i,su.k⟩,
  ⟨uL,uK,λ_=>l0,λ_=>lo.early aw,λ_=>lo.l7 aw,uK,uK,uK,uK,uK⟩⟩⟩
def Zr(st:St N K w)(tg:Tg N w)(su:ja w m v g e)(tm:nh m)(lo:nB w m v g e)(hk:m.op.kind=1)(p:m.pc=5):∃r,zY w m v g e=some r/\Nc N K w m nB Ao r:=by
 have gw:=st.jn;have st1:St (N+1) (K+1) w:=st.mono aw aw;have tg1:=tg.mono (sH N);have l0:=lo.lY (.inl aw);have sl:=su.listen;obtain⟨x,hx⟩:∃x,w.zf[m.listen.toNat]?=some x:=⟨_,pa aw⟩;obtain⟨z1,z2,z3⟩:=lo.early aw;have z4:=lo.l7 aw;have gv:=(gw.my _ v su.mu).1;unfold zY vW;rw[pw aw,pw aw,pw aw,pA p,pw aw,hx,pM];cases hd:x.drain
 ·simp only[ug,if_false];obtain⟨c0,c,hc⟩:=Vc gv.snap m.op.listen m.op.host m.op.path;by_cases f:(x9 m v).2=0
  ·have glt:(x9 m v).1.toNat<v.zp.length:=by have:=(gZ.1 hc).1;have:=gv.len;show(jW v.snap m.op.listen m.op.host m.op.path).1.toNat<_;omega
   obtain⟨g',e',hg,he,q1,q2⟩:=Gw gv glt;have c0':0<=(x9 m v).1:=c0;have su':∀pc an,ja w {m with zi:=(x9 m v).1,pc:=pc,answer:=an} v g' e':=λpc an=>⟨su.world,su.zg,su.done,su.version,su.mu,⟨c0',by show(x9 m v).1<_;omega⟩,hg,⟨by show 0<=m.end_;omega,by show m.end_<_;omega⟩,by show g'.ends[m.end_.toNat]?=_;rw[z2];exact he,⟨by show 0<=m.other;omega,by show m.other<_;omega⟩,⟨aM,aN⟩,su.listen,su.i,su.k⟩
   by_cases d:(xu c m.op.d0 m.op.d1).2.2=0
   ·have hn:(lu c).length≠0:=by
     intro hz;unfold xu at d;rw[pA hz]at d;cases d
    by_cases po:c.xq=1
    ·rw[Ti f hc d po];exact zX O ⟨uY,st1,tg1,uO,rfl,rfl,xn.refl w _,qD w (Bg (mJ su.done hk uM) (mJ su.done hk uM) O),.inr ⟨v,g',e',su' 6 m.answer,⟨uL,uK,λ_=>l0,uK,λ_=>z4,λ_=>⟨c,hc,hn⟩,uK,uK,uK,uK⟩⟩⟩
    ·rw[Tj f hc d po];have gl:=(gv.Dp _ g' c hg hc).1;have dv:xu c m.op.d0 m.op.d1=(vp c m.op.d0,vp c m.op.d1,0):=by unfold xu;rw[pw hn]
     have r0:=Lp (n:=m.op.d0) hn;have r1:=Lp (n:=m.op.d1) hn;have d1:(xu c m.op.d0 m.op.d1).1=vp c m.op.d0:=by rw[dv]
     have d2:(xu c m.op.d0 m.op.d1).2.1=vp c m.op.d1:=by rw[dv]
     rw[d1,d2];have r0':0<=vp c m.op.d0/\vp c m.op.d0<c.zE.length:=r0;have r1':0<=vp c m.op.d1/\vp c m.op.d1<c.zE.length:=r1;obtain⟨e2,he2⟩:∃e2,g'.ends[(vp c m.op.d0).toNat]?=some e2:=⟨_,pa aw⟩;have n2:=((gv.oV.2 g' (pq hg)).2.2 e2 (pq he2)).2
     exact zX O ⟨uY,st1,tg1,uO,rfl,rfl,xn.refl w _,qD w (Bg (mJ su.done hk uM) (mJ su.done hk uM) O),.inr ⟨v,g',e2,⟨su.world,su.zg,su.done,su.version,su.mu,⟨c0',by show(x9 m v).1<_;omega⟩,hg,⟨r0'.1,by show vp c m.op.d0<_;omega⟩,he2,⟨r1'.1,by show vp c m.op.d1<_;omega⟩,⟨aM,aN⟩,su.listen,su.i,su.k⟩,
      ⟨uL,uK,λ_=>l0,uK,λ_=>z4,uK,uK,uK,uK,uK⟩⟩⟩
   ·rw[SQ f hc d];exact zX O ⟨uY,st1,tg1,uP,rfl,rfl,xn.refl w _,qD w (Bg (mJ su.done hk uM) (mJ su.done hk uM) O),.inr ⟨v,g',e',su' 20 (Ah 3),⟨uL,uK,uK,uK,uK,uK,uK,uK,λ_=>⟨by show(1:Int)<=3;decide,by show(3:Int)<=5;decide,λh=>absurd (show(3:Int)=1 from h) ar⟩,uK⟩⟩⟩
  ·rw[Un f];exact zX O ⟨uY,st1,tg1,uP,rfl,rfl,xn.refl w _,qD w (Bg (mJ su.done hk uM) (mJ su.done hk uM) O),.inr ⟨v,g,e,uQ,⟨uL,uK,uK,uK,uK,uK,uK,uK,λ_=>⟨by show(1:Int)<=2;decide,by show(2:Int)<=5;decide,λh=>absurd (show(2:Int)=1 from h) ar⟩,uK⟩⟩⟩
 ·simp only[if_true];exact zX O ⟨uY,st1,tg1,uP,rfl,rfl,xn.refl w _,qD w (Bg (mJ su.done hk uM) (mJ su.done hk uM) O),.inr ⟨v,g,e,uQ,⟨uL,uK,uK,uK,uK,uK,uK,uK,λ_=>⟨by show(1:Int)<=5;decide,by show(5:Int)<=5;decide,λh=>absurd (show(5:Int)=1 from h) ar⟩,uK⟩⟩⟩
def Zs(st:St N K w)(tg:Tg N w)(su:ja w m v g e)(tm:nh m)(lo:nB w m v g e)(hk:m.op.kind=1)(p:m.pc=6):∃r,zY w m v g e=some r/\Nc N K w m nB Ao r:=by
 have gw:=st.jn;have tg1:=tg.mono (sH N);obtain⟨f1,f2,f3,f4,f5,f6,f7⟩:=wN st su;have gv:=(gw.my _ v su.mu).1;obtain⟨c,hc,hn⟩:=lo.draw p;have l0:=lo.lY (.inl aw);have z:=lo.l7 aw;have gl:=(gv.Dp _ g c su.mn hc).1;have tr:=Lp (n:=g.zx) hn;have tv:(Be c g.zx).1=((lu c)[(g.zx%(lu c).length).toNat]?).getD 0:=by unfold Be;rw[pw hn]
 rw[<-tv]at tr;obtain⟨e2,he2⟩:∃e2,g.ends[(Be c g.zx).1.toNat]?=some e2:=⟨_,pa aw⟩;have n2:=((gv.oV.2 g (pq su.mn)).2.2 e2 (pq he2)).2;have st2:=(st.mono aw aw:St (N+1) (K+1) w).Am su.at_ (e':=qE e e.head e.zj) (tk:=IntKind.u64.wrap (g.zx+1)) f1 O f6 (zzp _) aO;have eset:g.ends.set m.end_.toNat (qE e e.head e.zj)=g.ends:=yO _ _ su.mM;have s1:=(gZ.1 su.mu).1;have s2:=(gZ.1 su.mn).1;have so:=su.other;unfold zY;rw[pw aw,pw aw,pw aw,pw aw,pA p,hc,pM]
 exact zX O ⟨tR,st2,GH tg1 su.at_ (e':=qE e e.head e.zj) (G7 tg1 su.at_),uO,rfl,rfl,Ga su.at_ (e':=qE e e.head e.zj) (FG.refl e _),V0 su.at_ (e':=qE e e.head e.zj) O O O (Bg (mJ su.done hk uM) (mJ su.done hk uM) O),.inr ⟨_,_,e2,⟨qO.2 st2.jn,su.zg,su.done,aq su.version,pC s1,aq su.zi,pC s2,⟨tr.1,by show _<(((g.ends.set m.end_.toNat (qE e e.head e.zj)).length:Nat):Int);rw[eset];show(Be c g.zx).1<_;omega⟩,by show(g.ends.set m.end_.toNat (qE e e.head e.zj))[(Be c g.zx).1.toNat]?=some e2;rw[eset];exact he2,aq so,⟨aM,aN⟩,su.listen,su.i,su.k⟩,
  ⟨uL,uK,λ_=>l0,uK,uK,uK,uK,uK,uK,uK⟩⟩⟩
def Zt(st:St N K w)(tg:Tg N w)(su:ja w m v g e)(tm:nh m)(lo:nB w m v g e)(hk:m.op.kind=1)(p:m.pc=7):∃r,zY w m v g e=some r/\Nc N K w m nB Ao r:=by
 obtain⟨f1,f2,f3,f4,f5,f6,f7⟩:=wN st su;have l0:=lo.lY (.inl aw);unfold zY;rw[pw aw,pw aw,pw aw,pw aw,pw aw,pA p]
 exact zX O ⟨uY,st.mono aw aw,tg.mono (sH N),uO,rfl,rfl,xn.refl w _,qD w (Bg (mJ su.done hk uM) (mJ su.done hk uM) O),.inr ⟨v,g,e,⟨su.world,su.zg,su.done,su.version,su.mu,su.zi,su.mn,su.end_,su.mM,su.other,su.slot,su.listen,f4,su.k⟩,
  ⟨uL,uK,λ_=>l0,uK,λ_=>lo.l7 aw,uK,uK,uK,uK,uK⟩⟩⟩
def Y0(st:St N K w)(tg:Tg N w)(su:ja w m v g e)(tm:nh m)(lo:nB w m v g e)(hk:m.op.kind=1)(p:m.pc=8):∃r,zY w m v g e=some r/\Nc N K w m nB Ao r:=by
 have gv:=(st.jn.my _ v su.mu).1;have tg1:=tg.mono (sH N);have l0:=lo.lY (.inl aw);have z:=lo.l7 aw;have so:=su.other;obtain⟨e2,he2⟩:∃e2,g.ends[m.other.toNat]?=some e2:=⟨_,pa aw⟩;have n2:=((gv.oV.2 g (pq su.mn)).2.2 e2 (pq he2)).2;unfold zY;rw[pw aw,pw aw,pw aw,pw aw,pw aw,pw aw,pA p,he2,pM];by_cases q:e2.zj<m.i
 ·rw[pA q]
  exact zX O ⟨uY,st.mono aw aw,tg1,uO,rfl,rfl,xn.refl w _,qD w (Bg (mJ su.done hk uM) (mJ su.done hk uM) O),.inr ⟨v,g,e2,⟨su.world,su.zg,su.done,su.version,su.mu,su.zi,su.mn,so,he2,so,⟨aM,aN⟩,su.listen,su.i,su.k⟩,
   ⟨uL,uK,λ_=>l0,uK,uK,uK,uK,uK,uK,uK⟩⟩⟩
 ·rw[pw q]
  exact zX O ⟨uY,st.mono aw aw,tg1,uO,rfl,rfl,xn.refl w _,qD w (Bg (mJ su.done hk uM) (mJ su.done hk uM) O),.inr ⟨v,g,e,uQ,
   ⟨uL,uK,λ_=>l0,uK,uK,uK,uK,uK,uK,uK⟩⟩⟩
def Y4(st:St N K w)(tg:Tg N w)(su:ja w m v g e)(tm:nh m)(lo:nB w m v g e)(hk:m.op.kind=1)(p:m.pc=9):∃r,zY w m v g e=some r/\Nc N K w m nB Ao r:=by
 obtain⟨f1,f2,f3,f4,f5,f6,f7⟩:=wN st su;have tg1:=tg.mono (sH N);have l0:=lo.lY (.inl aw);unfold zY;rw[pw aw,pw aw,pw aw,pw aw,pw aw,pw aw,pw aw,pA p];by_cases q:0<=zG e.head/\zG e.head<e.next.length
 ·rw[pA q]
  exact zX O ⟨uY,st.mono aw aw,tg1,⟨tm.listen,f6.1,tm.link,tm.host,tm.path,tm.d0,tm.d1,tm.cfg,tm.AY⟩,rfl,rfl,xn.refl w _,qD w (Bg (mJ su.done hk uM) (mJ su.done hk uM) O),.inr ⟨v,g,e,⟨su.world,su.zg,su.done,su.version,su.mu,su.zi,su.mn,su.end_,su.mM,su.other,q,su.listen,su.i,su.k⟩,
   ⟨uL,uK,λ_=>l0,uK,uK,uK,λ_=>⟨rfl,p8 _⟩,uK,uK,uK⟩⟩⟩
 ·rw[pw q];exact zX O ⟨uY,st.mono aw aw,tg1,⟨tm.listen,f6.1,tm.link,tm.host,tm.path,tm.d0,tm.d1,tm.cfg,(λh=>absurd ((show m.op.kind=6 from h).symm.trans hk) ar)⟩,rfl,rfl,xn.refl w _,qD w (Bg (mJ su.done hk uM) (mJ su.done hk uM) O),.inr ⟨v,g,e,uQ,⟨uL,uK,uK,uK,uK,uK,uK,uK,λ_=>⟨by show(1:Int)<=4;decide,by show(4:Int)<=5;decide,λh=>absurd (show(4:Int)=1 from h) ar⟩,uK⟩⟩⟩
def XQ(f1:Slp.mq e=true){s:Int}(h0:0<=s)(h1:s<e.next.length):∃x,e.next[s.toNat]?=some x:=⟨_,pa aw⟩
def X9(st:St N K w)(tg:Tg N w)(su:ja w m v g e)(tm:nh m)(lo:nB w m v g e)(hk:m.op.kind=1)(p:m.pc=10):∃r,zY w m v g e=some r/\Nc N K w m nB Ao r:=by
 obtain⟨f1,f2,f3,f4,f5,f6,f7⟩:=wN st su;have tg1:=tg.mono (sH N);have l0:=lo.lY (.inl aw);obtain⟨z1,z2⟩:=lo.slot (.inl p);have ss:=su.slot;obtain⟨x,hx⟩:=XQ f1 ss.1 ss.2;have hb:=(G7 tg su.at_).2 x (pq hx);unfold zY;rw[pw aw,pw aw,pw aw,pw aw,pw aw,pw aw,pw aw,pw aw,pA p,hx,pM]
 exact zX O ⟨uY,st.mono aw aw,tg1,⟨tm.listen,tm.word,by show -1<=x/\x<=2147483646;omega,tm.host,tm.path,tm.d0,tm.d1,tm.cfg,tm.AY⟩,rfl,rfl,xn.refl w _,qD w (Bg (mJ su.done hk uM) (mJ su.done hk uM) O),.inr ⟨v,g,e,uQ,
  ⟨uL,uK,λ_=>l0,uK,uK,uK,λ_=>⟨z1,z2⟩,λ_ _=>hx,uK,uK⟩⟩⟩
def zrL(f1:Slp.mq e=true)(f2:e.next.length<=4):Slp.zG e<=3:=by
 by_cases h:Slp.zG e<0
 ·omega
 ·have:=(Slp.VS f1 h).2.1;omega
def UY{x i:Int}{N:Nat}(h:x / 4294967296<=N)(hx:u64 x)(hN:N<=100000000)(h1: -1<=i)(h2:i<=2147483646):Slp.jC x i / 4294967296=x / 4294967296+1:=by
 have:=Slp.zvA (x:=x) h1 h2;unfold u64 at hx;omega
def Ya(st:St N K w)(tg:Tg N w)(su:ja w m v g e)(tm:nh m)(lo:nB w m v g e)(hk:m.op.kind=1)(hN:N<=100000000)(p:m.pc=11):∃r,zY w m v g e=some r/\Nc N K w m nB Ao r:=by
 obtain⟨f1,f2,f3,f4,f5,f6,f7⟩:=wN st su;have tg1:=tg.mono (sH N);have te:=G7 tg su.at_;have l0:=lo.lY (.inl aw);obtain⟨z1,z2⟩:=lo.slot (.inr p);have ss:=su.slot;unfold zY;rw[pw aw,pw aw,pw aw,pw aw,pw aw,pw aw,pw aw,pw aw,pw aw,pA p];by_cases q:e.head=m.word
 ·have z3:=lo.link p q;have hh:Slp.zG e=m.slot:=by rw[z1,<-q];rfl
  have hx2:Slp.nv e.next m.slot=m.link:=by unfold Slp.nv;rw[z3];rfl
  have ct:=(Slp.Nn (Slp.C3 f1).1 aw).2.1;rw[hh,hx2]at ct;have hd:Slp.zG (qE e (Slp.jC m.word m.link) e.zj)=m.link:=Slp.M6 tm.link.1 tm.link.2
  have is2:Slp.mq (qE e (Slp.jC m.word m.link) e.zj)=true:=by
   unfold Slp.mq;rw[hd];simp only[pG,pQ];exact⟨⟨⟨ct,f3⟩,f2⟩,f4⟩
  have nt:=UY (i:=m.link) te.1 f6.1 hN tm.link.1 tm.link.2;rw[q]at nt;obtain⟨q1,q2⟩:=zyx f6 f1 hh ss.1 hx2;rw[q]at q1 q2;have st2:=(st.mono aw aw:St (N+1) (K+1) w).Am su.at_ (e':=qE e (Slp.jC m.word m.link) e.zj) (tk:=g.zx) is2 O ⟨Slp.Om tm.link.1 tm.link.2,f6.2⟩ f7 aO;rw[pA q];have ta:AO (qE e (Slp.jC m.word m.link) e.zj)=AO e+1:=by unfold AO;rw[q];exact nt
  exact zX O ⟨aP,st2,GH tg1 su.at_ (e':=qE e (Slp.jC m.word m.link) e.zj) ⟨by have:=te.1;omega,te.2⟩,uO,rfl,rfl,Ga su.at_ (e':=qE e (Slp.jC m.word m.link) e.zj) ⟨rfl,aw,λh=>by omega,λ_ _ _=>O⟩,
   C9 (p:=1) (p':=2) (mJ su.done hk uM) (mJ su.done hk uM) (Ze su.at_ (e':=qE e (Slp.jC m.word m.link) e.zj) O ss.1 ss.2 q1 q2 O m.listen),.inr ⟨_,_,_,HQ (e':=qE e (Slp.jC m.word m.link) e.zj) (m':={m with pc:=12}) su O st2.jn O su.done O O O O O O O O,
   ⟨uL,uK,λ_=>l0,uK,uK,uK,uK,uK,uK,uK⟩⟩⟩
 ·rw[pw q]
  exact zX O ⟨aQ,st.mono aw aw,tg1,uO,rfl,rfl,xn.refl w _,qD w (Bg (mJ su.done hk uM) (mJ su.done hk uM) O),.inr ⟨v,g,e,uQ,
   ⟨uL,uK,λ_=>l0,uK,uK,uK,uK,uK,uK,uK⟩⟩⟩
def Yb(st:St N K w)(tg:Tg N w)(su:ja w m v g e)(tm:nh m)(lo:nB w m v g e)(hk:m.op.kind=1)(hK:K<=1099511627776)(p:m.pc=12):∃r,zY w m v g e=some r/\Nc N K w m nB Ao r:=by
 obtain⟨f1,f2,f3,f4,f5,f6,f7⟩:=wN st su;have tg1:=tg.mono (sH N);have l0:=lo.lY (.inl aw);have hw:IntKind.i64.wrap (e.zj+1)=e.zj+1:=qi aw aw;have st2:=(st.mono aw aw:St (N+1) (K+1) w).Am su.at_ (e':=qE e e.head (e.zj+1)) (tk:=g.zx) (VT f1 _ aw) O ⟨f6.1,f6.2.1,by show i64 (e.zj+1);unfold i64;omega⟩ f7 (by show e.zj+1<=_;omega);unfold zY;rw[pw aw,pw aw,pw aw,pw aw,pw aw,pw aw,pw aw,pw aw,pw aw,pw aw,pA p,hw]
 exact zX O ⟨tR,st2,GH tg1 su.at_ (e':=qE e e.head (e.zj+1)) (show Eo (N+1) e from G7 tg1 su.at_),uP,rfl,rfl,Ga su.at_ (e':=qE e e.head (e.zj+1)) ⟨rfl,p8 _,λ_=>O,λ_ _ _=>O⟩,
  C9 (p:=2) (p':=3) (mJ su.done hk uM) (mJ su.done hk uM) (Yy su.at_ (e':=qE e e.head (e.zj+1)) O O f4 O m.slot m.listen),.inr ⟨_,_,_,HQ (e':=qE e e.head (e.zj+1)) (m':={m with answer:=DW m,pc:=20}) su O st2.jn O su.done O O O O O O O O,
  ⟨uL,uK,uK,uK,uK,uK,uK,uK,λ_=>⟨by show(1:Int)<=1;decide,by show(1:Int)<=5;decide,λ_=>⟨rfl,l0⟩⟩,uK⟩⟩⟩
def Yc(st:St N K w)(tg:Tg N w)(su:ja w m v g e)(tm:nh m)(lo:nB w m v g e)(hk:m.op.kind=1)(p:m.pc=20):∃r,zY w m v g e=some r/\Nc N K w m nB Ao r:=by
 have kr:=zr6 m.answer.kind;obtain⟨r2,hl,hc⟩:=S6 st su (pc:=21) kr.1 kr.2;have st2:=(st.mono aw aw:St (N+1) (K+1) w).count m.zg.toNat hl;have an:=lo.AY aw
 have ow:xw m=xw {m with pc:=21}:=by
  by_cases k1:m.answer.kind=1
  ·exact GY (p:=3) (mJ su.done hk uM) (mJ su.done hk uM) O O O O O
  ·by_cases k2:0<=m.listen
   ·exact Bg (mJ su.done hk uM) (mJ su.done hk uM) O
   ·exact Au (mJ su.done hk uM) (mJ su.done hk uM)
 unfold zY;rw[pw aw,pw aw,pw aw,pw aw,pw aw,pw aw,pw aw,pw aw,pw aw,pw aw,pw aw,pA p,hc]
 exact zX O ⟨tR,st2,tg.mono (sH N),uO,rfl,rfl,va (p8 _) O aj O O O,Gk O O O O O ow,.inr ⟨v,g,e,⟨qO.2 st2.jn,su.zg,su.done,su.version,su.mu,su.zi,su.mn,su.end_,su.mM,su.other,su.slot,su.listen,su.i,su.k⟩,
  ⟨uL,uK,uK,uK,uK,uK,uK,uK,λ_=>an,uK⟩⟩⟩
def XB(st:St N K w)(tg:Tg N w)(su:ja w m v g e)(tm:nh m)(lo:nB w m v g e)(hk:m.op.kind=1)(p:m.pc=21):∃r,zY w m v g e=some r/\Nc N K w m nB Ao r:=by
 obtain⟨r2,hl,hc⟩:=S6 st su (k:=0) (pc:=if m.answer.kind=1\/m.listen<0 then 23 else 22) ar ar;have st2:=(st.mono aw aw:St (N+1) (K+1) w).count m.zg.toNat hl;have an:=lo.AY aw;unfold zY;rw[pw aw,pw aw,pw aw,pw aw,pw aw,pw aw,pw aw,pw aw,pw aw,pw aw,pw aw,pw aw,pA p,hc];by_cases q:m.answer.kind=1\/m.listen<0
 ·rw[pA q]
  have ow:xw m=xw {m with pc:=23}:=by
   by_cases k1:m.answer.kind=1
   ·exact GY (p:=3) (mJ su.done hk uM) (mJ su.done hk uM) O O O O O
   ·exact Au (mJ su.done hk uM) (mJ su.done hk uM)
  exact zX O ⟨tR,st2,tg.mono (sH N),uO,rfl,rfl,va (p8 _) O aj O O O,Gk O O O O O ow,.inr ⟨v,g,e,⟨qO.2 st2.jn,su.zg,su.done,su.version,su.mu,su.zi,su.mn,su.end_,su.mM,su.other,su.slot,su.listen,su.i,su.k⟩,
   ⟨uL,uK,uK,uK,uK,uK,uK,uK,λ_=>an,uK⟩⟩⟩
 ·rw[pw q]
  exact zX O ⟨tR,st2,tg.mono (sH N),uO,rfl,rfl,va (p8 _) O aj O O O,Gk O O O O O (Bg (mJ su.done hk uM) (mJ su.done hk uM) O),.inr ⟨v,g,e,⟨qO.2 st2.jn,su.zg,su.done,su.version,su.mu,su.zi,su.mn,su.end_,su.mM,su.other,su.slot,su.listen,su.i,su.k⟩,
   ⟨uL,uK,λ_=>by show 0<=m.listen;omega,uK,uK,uK,uK,uK,λ_=>an,λ_ h=>q (.inl h)⟩⟩⟩
def IK(ow:∀x,xw m x<=Has w x){p:Nat}(h:ph m=p)(x:Key)(hx:1<=qp p m.version m.zi m.end_ m.slot m.listen x):1<=Has w x:=by
 have:=ow x;rw[jD h]at this;omega
def Vg(ow:∀x,xw m x<=Has w x){p:Nat}(h:ph m=p)(hp:1<=p/\p<=4):0<=m.listen/\∃x,w.zf[m.listen.toNat]?=some x/\1<=x.zj:=by
 have:=IK ow h (.lY m.listen) (by simp[qp,hp]);simp only[Has]at this;split at this
 ·rename_i q;split at this
  ·rename_i x hx;exact⟨q,x,hx,aw⟩
  ·omega
 ·omega
def XD(st:St N K w)(tg:Tg N w)(su:ja w m v g e)(tm:nh m)(lo:nB w m v g e)(hk:m.op.kind=1)(hK:K<=1099511627776)(ow:∀x,xw m x<=Has w x)(p:m.pc=22):∃r,zY w m v g e=some r/\Nc N K w m nB Ao r:=by
 have l0:=lo.lY (.inr p);have k1:=lo.kind p;have p1:ph m=1:=(mJ su.done hk uM);obtain⟨_,x,hx,x1⟩:=Vg ow p1 ar;have ca:=st.nI.lY x (pq hx);have hw:IntKind.i64.wrap (x.zj-1)=x.zj-1:=qi aw aw;have st2:=ON st su hx (x.zj-1) aw aw hK;have an:=lo.AY aw;unfold zY vW;rw[pw aw,pw aw,pw aw,pw aw,pw aw,pw aw,pw aw,pw aw,pw aw,pw aw,pw aw,pw aw,pw aw,pA p,pw aw,hx,pM];unfold EZ;rw[hw]
 exact zX O ⟨tR,st2,tg.mono (sH N),uO,rfl,rfl,Ih hx O id,C9 (p:=1) (p':=0) p1 (mJ su.done hk uM) (UW l0 hx x1 O _ _ _ _ _ _ _ _ _),.inr ⟨v,g,e,⟨qO.2 st2.jn,su.zg,su.done,su.version,su.mu,su.zi,su.mn,su.end_,su.mM,su.other,su.slot,aq su.listen,su.i,su.k⟩,
  ⟨uL,uK,uK,uK,uK,uK,uK,uK,λ_=>an,uK⟩⟩⟩
def XE(st:St N K w)(tg:Tg N w)(su:ja w m v g e)(tm:nh m)(lo:nB w m v g e)(hk:m.op.kind=1)(p:m.pc=23):∃r,zY w m v g e=some r/\Nc N K w m nB Ao r:=by
 have ep:=(qs.1 st.jn.ground).zn;have st2:=(st.mono aw aw:St (N+1) (K+1) w).BU m.zg.toNat (p:=0) aw aw;have an:=lo.AY aw
 have ow:xw m=xw {m with done:=true}:=by
  by_cases k1:m.answer.kind=1
  ·exact GY (p:=3) (mJ su.done hk uM) (Ui O hk k1) O O O O O
  ·exact Au (mJ su.done hk uM) (vZ O (λh=>k1 h.2))
 unfold zY;rw[pw aw,pw aw,pw aw,pw aw,pw aw,pw aw,pw aw,pw aw,pw aw,pw aw,pw aw,pw aw,pw aw,pw aw,pA p];exact zX O ⟨tU,st2,tg.mono (sH N),uP,rfl,rfl,va (p8 _) aj O O O O,Gk O O O O O ow,.inl ⟨rfl,an⟩⟩
def zsw(st:St N K w)(tg:Tg N w)(su:ja w m v g e)(tm:nh m)(lo:nB w m v g e)(hk:m.op.kind=1)(hN:N<=100000000)(hK:K<=1099511627776)(ow:∀x,xw m x<=Has w x):∃r,zY w m v g e=some r/\Nc N K w m nB Ao r:=by
 have pc:=lo.pc;by_cases h3:m.pc<3
 ·exact XF st tg su tm lo hk h3
 rcases(by omega:m.pc=3\/m.pc=4\/m.pc=5\/m.pc=6\/m.pc=7\/m.pc=8\/m.pc=9\/m.pc=10\/m.pc=11\/m.pc=12\/m.pc=20\/m.pc=21\/m.pc=22\/m.pc=23) with p|p|p|p|p|p|p|p|p|p|p|p|p|p
 ·exact Zp st tg su tm lo hk hN p
 ·exact Zq st tg su tm lo hk hK p
 ·exact Zr st tg su tm lo hk p
 ·exact Zs st tg su tm lo hk p
 ·exact Zt st tg su tm lo hk p
 ·exact Y0 st tg su tm lo hk p
 ·exact Y4 st tg su tm lo hk p
 ·exact X9 st tg su tm lo hk p
 ·exact Ya st tg su tm lo hk hN p
 ·exact Yb st tg su tm lo hk hK p
 ·exact Yc st tg su tm lo hk p
 ·exact XB st tg su tm lo hk p
 ·exact XD st tg su tm lo hk hK ow p
 ·exact XE st tg su tm lo hk p
end
end Go.Wor
