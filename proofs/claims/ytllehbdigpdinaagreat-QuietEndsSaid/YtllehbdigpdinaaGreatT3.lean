import Derived.Test.YtllehbdigpdinaaGreatT1
set_option linter.all false
set_option maxRecDepth 100000
set_option maxHeartbeats 4000000
namespace Go.Wor
open Go.Ab Go.Proofs Tryz Go.Hy Go.Gat Go.Nam Go.Hos Go.Con Go.Sna
variable{α:Type}{m m':fD}{p N:Nat}{w w':Wor}{v:fI}{g:Gr}{e:En}{s i tk:Int}{x:fS}{y:fT}
inductive Key
 |slot (i j k s:Int)
 |act (i j k:Int)
 |fP (i:Int)
 |fW (i:Int)
 |lock
variable{o:Key->Nat}
def ph(m:fD):Nat:=
 if m.done=true then (if m.op.kind=1/\m.answer.kind=1 then 3 else 0)
 else if m.op.kind=1 then (if 5<=m.pc/\m.pc<=11 then 1 else if m.pc=12 then 2 else if 20<=m.pc then (if m.answer.kind=1 then 3 else if m.pc<=22/\0<=m.listen then 1 else 0) else 0)
 else if m.op.kind=2 then (if m.pc<=2 then 3 else if m.pc=3 then 4 else if m.pc=4 then 1 else 0)
 else if m.op.kind=3 then (if 1<=m.pc then 5 else 0)
 else if m.op.kind=5 then (if 1<=m.pc then 6 else 0)
 else 0
def qj(p:Nat)(i j k s l:Int):Key->Nat
 |.slot i' j' k' s'=>if (p=2\/p=3)/\i=i'/\j=j'/\k=k'/\s=s' then 1 else 0
 |.act i' j' k'=>if (p=3\/p=4)/\i=i'/\j=j'/\k=k' then 1 else 0
 |.fP l'=>if (1<=p/\p<=4)/\l=l' then 1 else 0
 |.fW i'=>if p=5/\i=i' then 1 else 0
 |.lock=>if p=6 then 1 else 0
def j3(m:fD):Key->Nat:=qj (ph m) m.version m.zg m.end_ m.slot m.listen
def lH(a:fN):Key->Nat:=qj 3 a.version a.zg a.end_ a.slot a.listen
theorem jl(h:ph m=p):j3 m=qj p m.version m.zg m.end_ m.slot m.listen:=by unfold j3;rw[h]
def Am(i j k s l:Int)(x:Key):qj 0 i j k s l x=0:=by cases x <;> simp[qj]
def Us(i j k s l i' j' k' s':Int):qj 1 i j k s l=qj 1 i' j' k' s' l:=by funext x;cases x <;> simp[qj]
def Ut(i j k s l j' k' s' l':Int):qj 5 i j k s l=qj 5 i j' k' s' l':=by funext x;cases x <;> simp[qj]
def Uu(i j k s l i' j' k' s' l':Int):qj 6 i j k s l=qj 6 i' j' k' s' l':=by funext x;cases x <;> simp[qj]
def ic{n:Nat}(hd:m.done=false)(hk:m.op.kind=1)(h:(if 5<=m.pc/\m.pc<=11 then 1 else if m.pc=12 then 2 else if 20<=m.pc then (if m.answer.kind=1 then 3 else if m.pc<=22/\0<=m.listen then 1 else 0) else 0)=n):ph m=n:=by
 unfold ph
 grind
def lQ{n:Nat}(hd:m.done=false)(hk:m.op.kind=2)(h:(if m.pc<=2 then 3 else if m.pc=3 then 4 else if m.pc=4 then 1 else 0)=n):ph m=n:=by
 unfold ph
 grind
def Bq{n:Nat}(hd:m.done=false)(hk:m.op.kind=3)(h:(if 1<=m.pc then 5 else 0)=n):ph m=n:=by
 unfold ph
 grind
def lZ{n:Nat}(hd:m.done=false)(hk:m.op.kind=5)(h:(if 1<=m.pc then 6 else 0)=n):ph m=n:=by
 unfold ph
 grind
def F2(hd:m.done=false)(h1:m.op.kind≠1)(h2:m.op.kind≠2)(h3:m.op.kind≠3)(h5:m.op.kind≠5):ph m=0:=by
 unfold ph
 grind
def vc(hd:m.done=true)(h:¬(m.op.kind=1/\m.answer.kind=1)):ph m=0:=by
 unfold ph
 grind
def PX(hd:m.done=true)(hk:m.op.kind=1)(h:m.answer.kind=1):ph m=3:=by
 unfold ph
 grind
def wE(w:Wor)(i j k:Int):Option En:=if 0<=i/\0<=j/\0<=k then yZ w i j k else none
def lb(e:En)(s:Int):Nat:=if 0<=s/\s<e.next.length/\s∉(Slp.qB e).1 then 1 else 0
def Has(w:Wor):Key->Nat
 |.slot i j k s=>match wE w i j k with
  |some e=>lb e s
  |none=>0
 |.act i j k=>match wE w i j k with
  |some e=>e.zj.toNat
  |none=>0
 |.fP i=>if 0<=i then (match w.zc[i.toNat]? with
  |some l=>l.zj.toNat
  |none=>0) else 0
 |.fW i=>if 0<=i/\i<w.ze.length/\i≠w.current/\∀r∈w.zm,r.version≠i then 1 else 0
 |.lock=>w.lock.toNat
def Mv(w w':Wor)(a b:Key->Nat):Prop:=∀x,Has w' x+a x=Has w x+b x
def R0(hat:iB w m v g e):wE w m.version m.zg m.end_=some e:=by
 unfold wE;rw[gz ⟨hat.v0,hat.g0,hat.e0⟩];exact HT hat
def P5(hat:iB w m v g e)(e':En)(tk i j k:Int):wE (mQ w m v g e' tk) i j k=if i=m.version/\j=m.zg/\k=m.end_ then some e' else wE w i j k:=by
 have p1:=hat.v0;have p2:=hat.g0;have p3:=hat.e0;unfold wE;rw[G9 hat];by_cases h:0<=i/\0<=j/\0<=k
 .rw[gz h,gz h];by_cases q:i=m.version/\j=m.zg/\k=m.end_
  .grind
  .rw[gp q,gp (λz=>q aw)]
 all_goals grind
def Pl(h:w'.ze=w.ze)(i j k:Int):wE w' i j k=wE w i j k:=by unfold wE yZ;rw[h]
def qs(w:Wor){a b:Key->Nat}(h:a=b):Mv w w a b:=λx=>by rw[h]
def Ef{a b:Key->Nat}(h1:w'.ze=w.ze)(h2:w'.zc=w.zc)(h3:w'.zm=w.zm)(h4:w'.current=w.current)(h5:w'.lock=w.lock)(h:a=b):Mv w w' a b:=λx=>by
 rw[h];cases x with
 |slot i j k s=>simp only[Has,Pl h1]
 |act i j k=>simp only[Has,Pl h1]
 |fP i=>simp only[Has,h2]
 |fW i=>simp only[Has,h1,h3,h4]
 |lock=>simp only[Has,h5]
section
variable {w:Wor} {m:fD} {v:fI} {g:Gr} {e e':En} {tk:Int}
def zvE(hat:iB w m v g e)(e':En)(tk:Int)(x:Key):Has (mQ w m v g e' tk) x=match x with
  |.slot i j k s=>if i=m.version/\j=m.zg/\k=m.end_ then lb e' s else Has w x
  |.act i j k=>if i=m.version/\j=m.zg/\k=m.end_ then e'.zj.toNat else Has w x
  |x=>Has w x:=by
 cases x with
 |slot i j k s=>
  simp only[Has,P5 hat];by_cases q:i=m.version/\j=m.zg/\k=m.end_
  .rw[gz q,gz q]
  .rw[gp q,gp q]
 |act i j k=>
  simp only[Has,P5 hat];by_cases q:i=m.version/\j=m.zg/\k=m.end_
  .rw[gz q,gz q]
  .rw[gp q,gp q]
 |fP i=>rfl
 |fW i=>simp only[Has,mQ,pV]
 |lock=>rfl
def KX(hat:iB w m v g e)(s:Int):Has w (.slot m.version m.zg m.end_ s)=lb e s:=by simp only[Has,R0 hat]
def HZ(hat:iB w m v g e):Has w (.act m.version m.zg m.end_)=e.zj.toNat:=by simp only[Has,R0 hat]
def FZ(hat:iB w m v g e){a b:Key->Nat}(hs:∀s,lb e' s+a (.slot m.version m.zg m.end_ s)=lb e s+b (.slot m.version m.zg m.end_ s))(ha:e'.zj.toNat+a (.act m.version m.zg m.end_)=e.zj.toNat+b (.act m.version m.zg m.end_))
 (h:∀x,(∀s,x≠.slot m.version m.zg m.end_ s)->x≠.act m.version m.zg m.end_->a x=b x):Mv w (mQ w m v g e' tk) a b:=λx=>by
 rw[zvE hat];cases x with
 |slot i j k s=>
  dsimp only;by_cases q:i=m.version/\j=m.zg/\k=m.end_
  .rw[gz q];obtain⟨rfl,rfl,rfl⟩:=q;rw[KX hat];exact hs s
  .rw[gp q,h (.slot i j k s) (λs' z=>q (by cases z;exact⟨rfl,rfl,rfl⟩)) (λz=>nomatch z)]
 |act i j k=>
  dsimp only;by_cases q:i=m.version/\j=m.zg/\k=m.end_
  .rw[gz q];obtain⟨rfl,rfl,rfl⟩:=q;rw[HZ hat];exact ha
  .rw[gp q,h (.act i j k) (λs' z=>nomatch z) (λz=>q (by cases z;exact⟨rfl,rfl,rfl⟩))]
 |fP i=>dsimp only;rw[h (.fP i) (λs' z=>nomatch z) (λz=>nomatch z)]
 |fW i=>dsimp only;rw[h (.fW i) (λs' z=>nomatch z) (λz=>nomatch z)]
 |lock=>dsimp only;rw[h (.lock) (λs' z=>nomatch z) (λz=>nomatch z)]
def Sb(hat:iB w m v g e)(hl:e'.next.length=e.next.length)(hf:(Slp.qB e').1=(Slp.qB e).1)(ha:e'.zj=e.zj){a b:Key->Nat}(h:a=b):Mv w (mQ w m v g e' tk) a b:=
 FZ hat (λs=>by rw[h];unfold lb;rw[hl,hf]) (by rw[h,ha]) λx _ _=>by rw[h]
def zz5(hat:iB w m v g e)(hl:e'.next.length=e.next.length)(h0:0<=s)(h1:s<e.next.length)(hf:(Slp.qB e).1=s::(Slp.qB e').1)(hn:s∉(Slp.qB e').1)(ha:e'.zj=e.zj)(l:Int):Mv w (mQ w m v g e' tk) (qj 1 m.version m.zg m.end_ s l) (qj 2 m.version m.zg m.end_ s l):=by
 refine FZ hat (λt=>?_) (by simp[qj,ha]) λx q1 q2=>?_
 .grind [lb,qj]
 .cases x with
  |slot i j k t=>
   grind [qj]
  |act i j k=>simp[qj]
  |fP i=>simp[qj]
  |fW i=>simp[qj]
  |lock=>simp[qj]
def zyn(hat:iB w m v g e)(hl:e'.next.length=e.next.length)(h0:0<=s)(h1:s<e.next.length)(hf:(Slp.qB e').1=s::(Slp.qB e).1)(hn:s∉(Slp.qB e).1)(ha:e'.zj=e.zj)(l:Int):Mv w (mQ w m v g e' tk) (qj 3 m.version m.zg m.end_ s l) (qj 4 m.version m.zg m.end_ s l):=by
 refine FZ hat (λt=>?_) (by simp[qj,ha]) λx q1 q2=>?_
 .grind [lb,qj]
 .cases x with
  |slot i j k t=>
   grind [qj]
  |act i j k=>simp[qj]
  |fP i=>simp[qj]
  |fW i=>simp[qj]
  |lock=>simp[qj]
def zym(hat:iB w m v g e)(hl:e'.next.length=e.next.length)(hf:(Slp.qB e').1=(Slp.qB e).1)(h0:0<=e.zj)(ha:e'.zj=e.zj+1)(s l:Int):Mv w (mQ w m v g e' tk) (qj 2 m.version m.zg m.end_ s l) (qj 3 m.version m.zg m.end_ s l):=by
 refine FZ hat (λt=>by unfold lb;rw[hl,hf];simp[qj]) (by simp[qj,ha];omega) λx q1 q2=>?_
 cases x with
 |slot i j k t=>simp[qj]
 |act i j k=>
  grind [qj]
 |fP i=>simp[qj]
 |fW i=>simp[qj]
 |lock=>simp[qj]
def zyk(hat:iB w m v g e)(hl:e'.next.length=e.next.length)(hf:(Slp.qB e').1=(Slp.qB e).1)(h0:1<=e.zj)(ha:e'.zj=e.zj-1)(s l:Int):Mv w (mQ w m v g e' tk) (qj 4 m.version m.zg m.end_ s l) (qj 1 m.version m.zg m.end_ s l):=by
 refine FZ hat (λt=>by unfold lb;rw[hl,hf];simp[qj]) (by simp[qj,ha];omega) λx q1 q2=>?_
 cases x with
 |slot i j k t=>simp[qj]
 |act i j k=>
  grind [qj]
 |fP i=>simp[qj]
 |fW i=>simp[qj]
 |lock=>simp[qj]
end
def Mm{x:fT}(hi:0<=i)(hx:w.zc[i.toNat]?=some x){a b:Key->Nat}(h0:y.zj.toNat+a (.fP i)=x.zj.toNat+b (.fP i))(h:∀k,k≠.fP i->a k=b k):Mv w {w with zc:=w.zc.set i.toNat y} a b:=λk=>by
 cases k with
 |fP n=>
  by_cases q:n=i
  .grind [Has,List.getElem?_set_self]
  .rw[h (.fP n) (λz=>q (by cases z;rfl))]
   grind [Has,List.getElem?_set_ne]
 |slot a' b' c s=>rw[h (.slot a' b' c s) (λz=>nomatch z)];rfl
 |act a' b' c=>rw[h (.act a' b' c) (λz=>nomatch z)];rfl
 |fW n=>rw[h (.fW n) (λz=>nomatch z)];rfl
 |lock=>rw[h .lock (λz=>nomatch z)];rfl
def zv5{x:fT}(hi:0<=i)(hx:w.zc[i.toNat]?=some x)(h0:0<=x.zj)(hy:y.zj=x.zj+1)(a b c d a' b' c' d' l:Int):Mv w {w with zc:=w.zc.set i.toNat y} (qj 0 a b c d l) (qj 1 a' b' c' d' i):=by
 refine Mm hi hx (by simp[qj];omega) λk q=>?_
 cases k with
 |fP n=>simp only[qj];rw[gp aj,gp (λz=>q (by rw[z.2]))]
 |slot a' b' c s=>simp[qj]
 |act a' b' c=>simp[qj]
 |fW n=>simp[qj]
 |lock=>simp[qj]
def QT{x:fT}(hi:0<=i)(hx:w.zc[i.toNat]?=some x)(h0:1<=x.zj)(hy:y.zj=x.zj-1)(a b c d a' b' c' d' l:Int):Mv w {w with zc:=w.zc.set i.toNat y} (qj 1 a b c d i) (qj 0 a' b' c' d' l):=by
 refine Mm hi hx (by simp[qj];omega) λk q=>?_
 cases k with
 |fP n=>simp only[qj];rw[gp (λz=>q (by rw[z.2])),gp aj]
 |slot a' b' c s=>simp[qj]
 |act a' b' c=>simp[qj]
 |fW n=>simp[qj]
 |lock=>simp[qj]
def PI{x:fT}(hi:0<=i)(hx:w.zc[i.toNat]?=some x)(hy:y.zj=x.zj){a b:Key->Nat}(h:a=b):Mv w {w with zc:=w.zc.set i.toNat y} a b:=
 Mm hi hx (by rw[h,hy]) λ_ _=>by rw[h]
def wP(h:ph m=0)(h':ph m'=0):j3 m=j3 m':=by
 funext x
 rw[jl h,jl h',Am,Am]
def nM(h:ph m=1)(h':ph m'=1)(hl:m'.listen=m.listen):j3 m=j3 m':=by
 rw[jl h,jl h',hl];exact Us ..
def ED(h:ph m=p)(h':ph m'=p)(h1:m'.version=m.version)(h2:m'.zg=m.zg)(h3:m'.end_=m.end_)(h4:m'.slot=m.slot)(h5:m'.listen=m.listen):j3 m=j3 m':=by
 rw[jl h,jl h',h1,h2,h3,h4,h5]
def Vm(h:ph m=5)(h':ph m'=5)(hl:m'.version=m.version):j3 m=j3 m':=by
 rw[jl h,jl h',hl];exact Ut ..
def wQ(h:ph m=6)(h':ph m'=6):j3 m=j3 m':=by
 rw[jl h,jl h'];exact Uu ..
def AZ{p':Nat}(h:ph m=p)(h':ph m'=p')(x:Mv w w' (qj p m.version m.zg m.end_ m.slot m.listen) (qj p' m'.version m'.zg m'.end_ m'.slot m'.listen)):Mv w w' (j3 m) (j3 m'):=by
 grind [jl]
def nn(e:En):Int:=e.head / 4294967296
def Cn(N:Nat)(e:En):Prop:=nn e<=N/\∀x∈e.next, -1<=x/\x<=3
def Tg(N:Nat)(w:Wor):Prop:=∀v∈w.ze,∀g∈v.zq,∀e∈g.ends,Cn N e
def Tg.mono{N':Nat}(h:Tg N w)(hN:N<=N'):Tg N' w:=λv hv g hg e he=>⟨by have:=(h v hv g hg e he).1;omega,(h v hv g hg e he).2⟩
structure Ds(e e':En)(o:Int->Nat):Prop where
 len:e'.next.length=e.next.length
 tag:nn e<=nn e'
 head:nn e'=nn e->e'.head=e.head
 next:∀s,0<=s->o s=0->e'.next[s.toNat]?=e.next[s.toNat]?
theorem Ds.refl(e:En)(o:Int->Nat):Ds e e o:=⟨rfl,gO _,λ_=>V,λ_ _ _=>V⟩
structure EK(g g':Gr)(o:Nat->Int->Nat):Prop where
 len:g'.ends.length=g.ends.length
 ends : ∀(k : Nat) e e', g.ends[k]? = some e -> g'.ends[k]? = some e' -> Ds e e' (o k)
theorem EK.refl(g:Gr)(o:Nat->Int->Nat):EK g g o:=⟨rfl,λk e e' h h'=>by rw[h]at h';cases h';exact Ds.refl e _⟩
structure B9(v v':fI)(o:Nat->Nat->Int->Nat):Prop where
 snap:v'.snap=v.snap
 len:v'.zq.length=v.zq.length
 BS:∀(j:Nat) g g',v.zq[j]?=some g->v'.zq[j]?=some g'->EK g g' (o j)
theorem B9.refl(v:fI)(o:Nat->Nat->Int->Nat):B9 v v o:=⟨rfl,rfl,λj g g' h h'=>by rw[h]at h';cases h';exact EK.refl g _⟩
structure xb(w w':Wor)(o:Key->Nat):Prop where
 zl:w.zl<=w'.zl
 pins:w'.pins.length=w.pins.length
 counts:w'.counts.length=w.counts.length
 vg:w.ze.length<=w'.ze.length
 fW:∀(i:Nat) v v',w.ze[i]?=some v->w'.ze[i]?=some v'->B9 v v' λj k s=>o (.slot i j k s)
 fP:w'.zc.length=w.zc.length
 og:∀(i:Nat) l l',w.zc[i]?=some l->w'.zc[i]?=some l'->l'.name=l.name/\(l.drain=true->l'.drain=true)
 lim:w.zm.length<=w'.zm.length
 zm:∀(i:Nat) r r',w.zm[i]?=some r->w'.zm[i]?=some r'->r'.version=r.version/\r'.at_=r.at_/\(o .lock=0->r'.gone=r.gone)
theorem vB{l:List α}{i:Nat}{x y:α}(h:l[i]?=some x)(h':l[i]?=some y):y=x:=by rw[h]at h';cases h';rfl
def yu(h0:w.zl<=w'.zl)(h1:w'.pins.length=w.pins.length)(h2:w'.counts.length=w.counts.length)(h3:w'.ze=w.ze)(h4:w'.zc=w.zc)(h5:w'.zm=w.zm):xb w w' o:=by
 refine⟨h0,h1,h2,by rw[h3];exact gG _,λi v v' h h'=>?_,by rw[h4],λi l l' h h'=>?_,by rw[h5];exact gG _,λi r r' h h'=>?_⟩
 .grind [vB,B9.refl]
 all_goals grind
theorem xb.refl(w:Wor)(o:Key->Nat):xb w w o:=yu (gO _) V V V V V
def DY{e':En}(hat:iB w m v g e)(h:Ds e e' λs=>o (.slot m.version m.zg m.end_ s)):xb w (mQ w m v g e' tk) o:=by
 have p1:=hat.v0;have p2:=hat.g0;have p3:=hat.e0;refine⟨gO _,rfl,rfl,by show _<=(w.ze.set _ _).length;rw[pV];exact gG _,λi v1 v2 h1 h2=>?_,rfl,λi l l' h1 h2=>?_,gG _,λi r r' h1 h2=>?_⟩
 .rcases xc h2 with⟨rfl,rfl,_⟩|⟨_,h2⟩
  .rw[vB hat.at_ h1];refine⟨rfl,aj,λj g1 g2 h3 h4=>?_⟩;rcases xc h4 with⟨rfl,rfl,_⟩|⟨_,h4⟩
   .rw[vB hat.fY h3];refine⟨aj,λk e1 e2 h5 h6=>?_⟩;rcases xc h6 with⟨rfl,rfl,_⟩|⟨_,h6⟩
    .rw[vB hat.ib h5,rM p1,rM p2,rM p3];exact h
    grind [vB,Ds.refl]
   grind [vB,EK.refl]
  grind [vB,B9.refl]
 all_goals grind
def FI{i:Nat}{x:fT}(hx:w.zc[i]?=some x)(hn:y.name=x.name)(hd:x.drain=true->y.drain=true):xb w {w with zc:=w.zc.set i y} o:=by
 refine⟨gO _,rfl,rfl,gG _,λi v1 v2 h1 h2=>?_,aj,λj l l' h1 h2=>?_,gG _,λi r r' h1 h2=>?_⟩
 .grind [vB,B9.refl]
 all_goals grind
theorem zwR{l l2:List α}{i:Nat}{x y:α}(h:l[i]?=some x)(h':(l++l2)[i]?=some y):y=x:=by
 grind
def ztn{n:Int}:xb w {w with current:=n,ze:=w.ze++[v]} o:=by
 refine⟨gO _,rfl,rfl,aj,λi v1 v2 h1 h2=>?_,rfl,λi l l' h1 h2=>?_,gG _,λi r r' h1 h2=>?_⟩
 .grind [zwR,B9.refl]
 all_goals grind
def zvR:xb w {w with zm:=w.zm++[x]} o:=by
 refine⟨gO _,rfl,rfl,gG _,λi v1 v2 h1 h2=>?_,rfl,λi l l' h1 h2=>?_,aj,λi r r' h1 h2=>?_⟩
 .grind [vB,B9.refl]
 all_goals grind
def Ym{i k:Nat}(ho:o .lock=1)(hv:w.ze[k]?=some v)(hx:w.zm[i]?=some x):xb w {w with ze:=w.ze.set k (x5 v),zm:=w.zm.set i (xG x)} o:=by
 refine⟨gO _,rfl,rfl,aj,λj v1 v2 h1 h2=>?_,rfl,λi l l' h1 h2=>?_,aj,λj r r' h1 h2=>?_⟩
 .rcases xc h2 with⟨rfl,rfl,_⟩|⟨_,h2⟩
  .rw[vB hv h1];exact⟨rfl,rfl,λj g g' h3 h4=>by rw[vB h3 (show v.zq[j]?=some g' from h4)];exact EK.refl g _⟩
  grind [vB,B9.refl]
 all_goals grind
structure iT(w:Wor)(m:fD)(v:fI)(g:Gr)(e:En):Prop where
 pc:(0<=m.pc/\m.pc<=12)\/(20<=m.pc/\m.pc<=23)
 ep:m.pc=1\/m.pc=2->0<=m.zl/\m.zl<=w.zl
 fP:(4<=m.pc/\m.pc<=12)\/m.pc=22->0<=m.listen
 early:4<=m.pc/\m.pc<=5->m.zg=0/\m.end_=0/\m.other=0
 Ct:4<=m.pc/\m.pc<=8->m.slot=0
 draw:m.pc=6->∃c,v.snap.zo[m.zg.toNat]?=some c/\(fE c).length≠0
 slot:m.pc=10\/m.pc=11->m.slot=zA m.word/\m.word / 4294967296<=nn e
 link:m.pc=11->e.head=m.word->e.next[m.slot.toNat]?=some m.link
 nA:20<=m.pc->1<=m.answer.kind/\m.answer.kind<=5/\(m.answer.kind=1->m.answer=Es m/\0<=m.listen)
 kind:m.pc=22->m.answer.kind≠1
structure Jb(w:Wor)(m:fD)(v:fI)(g:Gr)(e:En):Prop where
 pc:(0<=m.pc/\m.pc<=4)\/m.pc=9
 fP:m.pc<=4->0<=m.listen
 tag:m.pc=1\/m.pc=2->m.word / 4294967296<=nn e/\zA m.word<=3
 next:m.pc=2->e.next[m.slot.toNat]?=some (zA m.word)
structure Jc(w:Wor)(m:fD)(v:fI)(g:Gr)(e:En):Prop where
 pc:0<=m.pc/\m.pc<=2
 ep:m.pc=2->0<=m.zl/\m.zl<=w.zl
structure Ff(w:Wor)(m:fD)(v:fI)(g:Gr)(e:En):Prop where
 pc:(0<=m.pc/\m.pc<=6)\/(8<=m.pc/\m.pc<=10)
 mP:m.pc=2->m.i<w.pins.length
 lim:m.pc=5\/m.pc=6->∃r,w.zm[m.i.toNat]?=some r/\r.version=m.version/\r.gone=false
 act:m.pc=5->m.k<(qv v).length
 fP:m.pc=9\/m.pc=10->∃l,w.zc[m.i.toNat]?=some l/\l.drain=true
structure Fg(w:Wor)(m:fD)(v:fI)(g:Gr)(e:En):Prop where
 pc:m.pc=0
 k:m.k<6
 i:m.i<w.counts.length
def Lc(w:Wor)(m:fD)(v:fI)(g:Gr)(e:En):Prop:=(m.op.kind=1/\iT w m v g e)\/(m.op.kind=2/\Jb w m v g e)\/(m.op.kind=3/\Jc w m v g e)\/(m.op.kind=4/\m.pc=0)\/(m.op.kind=5/\Ff w m v g e)\/(m.op.kind=6/\Fg w m v g e)
def mN(m:fD):Prop:=1<=m.answer.kind/\m.answer.kind<=5/\(m.answer.kind=1->m.answer=Es m/\0<=m.listen)
abbrev Tp(m:fD):fN:=⟨6,m.version,m.zg,m.end_,m.slot,m.listen,0,⟨0,0,0,0,0,0⟩⟩
def M1(m:fD):Prop:=m.answer=Tp m/\m.pc=4\/m.answer=mT 7/\m.pc=9
def C4(m:fD):Prop:=7<=m.answer.kind/\m.answer.kind<=13
def GF(m:fD):Prop:=(m.op.kind=1/\mN m)\/(m.op.kind=2/\M1 m)\/(3<=m.op.kind/\m.op.kind<=6/\C4 m)
structure Nc(N K:Nat)(w:Wor)(m:fD)(L:Wor->fD->fI->Gr->En->Prop)(F:fD->Prop)(r:Wor×fD×fG):Prop where
 ev:r.2.2.access≠0
 st:St (N+1) (K+1) r.1
 tg:Tg (N+1) r.1
 tm:iy r.2.1
 op:r.2.1.op=m.op
 th:r.2.1.zf=m.zf
 keep:xb w r.1 (j3 m)
 mv:Mv w r.1 (j3 m) (j3 r.2.1)
 go:(r.2.1.done=true/\F r.2.1)\/∃v g e,qt r.1 r.2.1 v g e/\L r.1 r.2.1 v g e
def Ei{e':En}(h:Tg N w)(hat:iB w m v g e)(h':Cn N e'):Tg N (mQ w m v g e' tk):=λv2 hv g2 hg e2 he=>by
 have mv:=gu hat.at_;have mg:=gu hat.fY;rcases mem_set hv with hv|rfl
 .exact h v2 hv g2 hg e2 he
 .rcases mem_set hg with hg|rfl
  .exact h v mv g2 hg e2 he
  .rcases mem_set he with he|rfl
   .exact h v mv g mg e2 he
   .exact h'
def ET(h:Tg N w)(hat:iB w m v g e):Cn N e:=h v (gu hat.at_) g (gu hat.fY) e (gu hat.ib)
section
variable {N K:Nat} {w:Wor} {m:fD} {v:fI} {g:Gr} {e:En}
theorem zyM(st:St N K w)(tg:Tg N w)(su:qt w m v g e)(tm:iy m)(lo:iT w m v g e)(hk:m.op.kind=1)(h3:m.pc<3):∃r,qe w m v g e=some r/\Nc N K w m iT mN r:=by
 have gw:=st.qI;have ge:=zU.1 gw.ground;have hep:=ge.zl;have st1:St (N+1) (K+1) w:=st.mono aw aw;have tg1:=tg.mono (ru N);have lp:=lo.pc;unfold qe;rw[gz h3];unfold BM;rcases(by omega:m.pc=0\/m.pc=1\/m.pc=2) with p|p|p
 .rw[gz p];exact zF V ⟨uX,st1,tg1,uO,rfl,rfl,xb.refl w _,qs w (wP (ic su.done hk uM) (ic su.done hk uM)),.inr ⟨v,g,e,uQ,⟨uL,λ_=>⟨hep.1,gO _⟩,uK,uK,uK,uK,uK,uK,uK,uK⟩⟩⟩
 .have he:=lo.ep (.inl p);have hw:IntKind.i64.wrap (m.zl+1)=m.zl+1:=z7 aw aw;rw[gp aw,gz p,hw];have sp:=st1.mP m.zf.toNat (p:=m.zl+1) aw aw
  exact zF V ⟨tI,sp,tg1,uO,rfl,rfl,yu (gO _) aj V V V V,Ef V V V V V (wP (ic su.done hk uM) (ic su.done hk uM)),.inr ⟨v,g,e,⟨qf.2 sp.qI,aq su.zf,su.done,su.version,su.fZ,su.zg,su.fY,su.end_,su.ib,su.other,su.slot,su.listen,su.i,su.k⟩,
   ⟨uL,λ_=>he,uK,uK,uK,uK,uK,uK,uK,uK⟩⟩⟩
 .rw[gp aw,gp aw,gz p];by_cases q:w.zl=m.zl
  .rw[gz q];exact zF V ⟨uX,st1,tg1,uO,rfl,rfl,xb.refl w _,qs w (wP (ic su.done hk uM) (ic su.done hk uM)),.inr ⟨v,g,e,uQ,⟨uL,uK,uK,uK,uK,uK,uK,uK,uK,uK⟩⟩⟩
  .rw[gp q];exact zF V ⟨uX,st1,tg1,uO,rfl,rfl,xb.refl w _,qs w (wP (ic su.done hk uM) (ic su.done hk uM)),.inr ⟨v,g,e,uQ,⟨uL,λ_=>⟨hep.1,gO _⟩,uK,uK,uK,uK,uK,uK,uK,uK⟩⟩⟩
theorem Uv(st:St N K w)(tg:Tg N w)(su:qt w m v g e)(tm:iy m)(lo:iT w m v g e)(hk:m.op.kind=1)(hN:N<=100000000)(p:m.pc=3):∃r,qe w m v g e=some r/\Nc N K w m iT mN r:=by
 have gw:=st.qI;have st1:St (N+1) (K+1) w:=st.mono aw aw;have tg1:=tg.mono (ru N);have pr:=O9 w.zc m.op.listen;have hl:=st.ty.fP;have cu:=gw.current;obtain⟨v',hv'⟩:∃v',w.ze[w.current.toNat]?=some v':=⟨_,gk aw⟩;have gv:=(gw.fW _ v' hv').1;have h0:0<v'.zq.length:=aE
 obtain⟨g',e',hg,he,l1,l2⟩:=wI gv h0;unfold qe;rw[gp aw,gz p];by_cases q:zT w.zc m.op.listen<0
 .rw[gz q];refine zF V ⟨uX,st1,tg1,⟨aI,tm.word,tm.link,tm.host,tm.path,tm.d0,tm.d1,tm.cfg,(λh=>absurd ((show m.op.kind=6 from h).symm.trans hk) ar)⟩,rfl,rfl,xb.refl w _,qs w (wP (ic su.done hk uM) (ic su.done hk ?_)),.inr ⟨v',g',e',⟨su.world,su.zf,su.done,cu,hv',⟨gO _,aJ⟩,hg,⟨gO _,aJ⟩,he,⟨gO _,aJ⟩,⟨gO _,aJ⟩,pr,su.i,su.k⟩,⟨uL,uK,uK,uK,uK,uK,uK,uK,λ_=>⟨by show(1:Int)<=2;decide,by show(2:Int)<=5;decide,λh=>absurd (show(2:Int)=1 from h) ar⟩,uK⟩⟩⟩
  grind
 .rw[gp q]
  exact zF V ⟨uX,st1,tg1,⟨aI,tm.word,tm.link,tm.host,tm.path,tm.d0,tm.d1,tm.cfg,tm.nA⟩,rfl,rfl,xb.refl w _,qs w (wP (ic su.done hk uM) (ic su.done hk uM)),.inr ⟨v',g',e',⟨su.world,su.zf,su.done,cu,hv',⟨gO _,aJ⟩,hg,⟨gO _,aJ⟩,he,⟨gO _,aJ⟩,⟨gO _,aJ⟩,pr,su.i,su.k⟩,
   ⟨uL,uK,λ_=>by show 0<=zT w.zc m.op.listen;omega,λ_=>⟨rfl,rfl,rfl⟩,λ_=>V,uK,uK,uK,uK,uK⟩⟩⟩
theorem Uw(st:St N K w)(tg:Tg N w)(su:qt w m v g e)(tm:iy m)(lo:iT w m v g e)(hk:m.op.kind=1)(hK:K<=1099511627776)(p:m.pc=4):∃r,qe w m v g e=some r/\Nc N K w m iT mN r:=by
 have gw:=st.qI;have tg1:=tg.mono (ru N);have l0:=lo.fP (.inl aw);have sl:=su.listen;obtain⟨x,hx⟩:∃x,w.zc[m.listen.toNat]?=some x:=⟨_,gk aw⟩;have li:=Eo (gw.fP _ x hx).1;have ca:=st.i5.fP x (gu hx);have hw:IntKind.i64.wrap (x.zj+1)=x.zj+1:=z7 aw aw;have st2:=LQ st su hx (x.zj+1) aw aw hK;unfold qe w9;rw[gp aw,gp aw,gz p,gp aw,hx,gK];unfold MA;rw[hw]
 exact zF V ⟨tM,st2,tg1,uO,rfl,rfl,FI hx V id,AZ (p:=0) (p':=1) (ic su.done hk uM) (ic su.done hk uM) (zv5 l0 hx li.2.1 V _ _ _ _ _ _ _ _ _),.inr ⟨v,g,e,⟨qf.2 st2.qI,su.zf,su.done,su.version,su.fZ,su.zg,su.fY,su.end_,su.ib,su.other,su.slot,aq su.listen,su.i,su.k⟩,
  ⟨uL,uK,λ_=>l0,λ_=>lo.early aw,λ_=>lo.Ct aw,uK,uK,uK,uK,uK⟩⟩⟩
theorem Ux(st:St N K w)(tg:Tg N w)(su:qt w m v g e)(tm:iy m)(lo:iT w m v g e)(hk:m.op.kind=1)(p:m.pc=5):∃r,qe w m v g e=some r/\Nc N K w m iT mN r:=by
 have gw:=st.qI;have st1:St (N+1) (K+1) w:=st.mono aw aw;have tg1:=tg.mono (ru N);have l0:=lo.fP (.inl aw);have sl:=su.listen;obtain⟨x,hx⟩:∃x,w.zc[m.listen.toNat]?=some x:=⟨_,gk aw⟩;obtain⟨z1,z2,z3⟩:=lo.early aw;have z4:=lo.Ct aw;have gv:=(gw.fW _ v su.fZ).1;unfold qe w9;rw[gp aw,gp aw,gp aw,gz p,gp aw,hx,gK];cases hd:x.drain
 .simp only[sB,if_false];obtain⟨c0,c,hc⟩:=KV gv.snap m.op.listen m.op.host m.op.path;by_cases f:(xP m v).2=0
  .have glt:(xP m v).1.toNat<v.zq.length:=by have:=(gh.1 hc).1;have:=gv.len;show(B1 v.snap m.op.listen m.op.host m.op.path).1.toNat<_;omega
   obtain⟨g',e',hg,he,q1,q2⟩:=wI gv glt;have c0':0<=(xP m v).1:=c0;have su':∀pc an,qt w {m with zg:=(xP m v).1,pc:=pc,answer:=an} v g' e':=λpc an=>⟨su.world,su.zf,su.done,su.version,su.fZ,⟨c0',by show(xP m v).1<_;omega⟩,hg,⟨by show 0<=m.end_;omega,by show m.end_<_;omega⟩,by show g'.ends[m.end_.toNat]?=_;rw[z2];exact he,⟨by show 0<=m.other;omega,by show m.other<_;omega⟩,⟨aK,aL⟩,su.listen,su.i,su.k⟩
   by_cases d:(vt c m.op.d0 m.op.d1).2.2=0
   .have hn:(fE c).length≠0:=by
     grind [vt]
    by_cases po:c.x9=1
    .rw[PR f hc d po];exact zF V ⟨uX,st1,tg1,uO,rfl,rfl,xb.refl w _,qs w (nM (ic su.done hk uM) (ic su.done hk uM) V),.inr ⟨v,g',e',su' 6 m.answer,⟨uL,uK,λ_=>l0,uK,λ_=>z4,λ_=>⟨c,hc,hn⟩,uK,uK,uK,uK⟩⟩⟩
    .rw[PS f hc d po];have gl:=(gv.BS _ g' c hg hc).1;have dv:vt c m.op.d0 m.op.d1=(yF c m.op.d0,yF c m.op.d1,0):=by grind [vt]
     have r0:=L5 (n:=m.op.d0) hn;have r1:=L5 (n:=m.op.d1) hn;have d1:(vt c m.op.d0 m.op.d1).1=yF c m.op.d0:=by rw[dv]
     have d2:(vt c m.op.d0 m.op.d1).2.1=yF c m.op.d1:=by rw[dv]
     rw[d1,d2];have r0':0<=yF c m.op.d0/\yF c m.op.d0<c.zS.length:=r0;have r1':0<=yF c m.op.d1/\yF c m.op.d1<c.zS.length:=r1;obtain⟨e2,he2⟩:∃e2,g'.ends[(yF c m.op.d0).toNat]?=some e2:=⟨_,gk aw⟩;have n2:=((gv.mG.2 g' (gu hg)).2.2 e2 (gu he2)).2
     exact zF V ⟨uX,st1,tg1,uO,rfl,rfl,xb.refl w _,qs w (nM (ic su.done hk uM) (ic su.done hk uM) V),.inr ⟨v,g',e2,⟨su.world,su.zf,su.done,su.version,su.fZ,⟨c0',by show(xP m v).1<_;omega⟩,hg,⟨r0'.1,by show yF c m.op.d0<_;omega⟩,he2,⟨r1'.1,by show yF c m.op.d1<_;omega⟩,⟨aK,aL⟩,su.listen,su.i,su.k⟩,
      ⟨uL,uK,λ_=>l0,uK,λ_=>z4,uK,uK,uK,uK,uK⟩⟩⟩
   .rw[Pd f hc d];exact zF V ⟨uX,st1,tg1,uP,rfl,rfl,xb.refl w _,qs w (nM (ic su.done hk uM) (ic su.done hk uM) V),.inr ⟨v,g',e',su' 20 (mT 3),⟨uL,uK,uK,uK,uK,uK,uK,uK,λ_=>⟨by show(1:Int)<=3;decide,by show(3:Int)<=5;decide,λh=>absurd (show(3:Int)=1 from h) ar⟩,uK⟩⟩⟩
  .rw[P2 f];exact zF V ⟨uX,st1,tg1,uP,rfl,rfl,xb.refl w _,qs w (nM (ic su.done hk uM) (ic su.done hk uM) V),.inr ⟨v,g,e,uQ,⟨uL,uK,uK,uK,uK,uK,uK,uK,λ_=>⟨by show(1:Int)<=2;decide,by show(2:Int)<=5;decide,λh=>absurd (show(2:Int)=1 from h) ar⟩,uK⟩⟩⟩
 .simp only[if_true];exact zF V ⟨uX,st1,tg1,uP,rfl,rfl,xb.refl w _,qs w (nM (ic su.done hk uM) (ic su.done hk uM) V),.inr ⟨v,g,e,uQ,⟨uL,uK,uK,uK,uK,uK,uK,uK,λ_=>⟨by show(1:Int)<=5;decide,by show(5:Int)<=5;decide,λh=>absurd (show(5:Int)=1 from h) ar⟩,uK⟩⟩⟩
theorem Uy(st:St N K w)(tg:Tg N w)(su:qt w m v g e)(tm:iy m)(lo:iT w m v g e)(hk:m.op.kind=1)(p:m.pc=6):∃r,qe w m v g e=some r/\Nc N K w m iT mN r:=by
 have gw:=st.qI;have tg1:=tg.mono (ru N);obtain⟨f1,f2,f3,f4,f5,f6,f7⟩:=kR st su;have gv:=(gw.fW _ v su.fZ).1;obtain⟨c,hc,hn⟩:=lo.draw p;have l0:=lo.fP (.inl aw);have z:=lo.Ct aw;have gl:=(gv.BS _ g c su.fY hc).1;have tr:=L5 (n:=g.zx) hn;have tv:(oU c g.zx).1=((fE c)[(g.zx%(fE c).length).toNat]?).getD 0:=by grind [oU]
 rw[<-tv]at tr;obtain⟨e2,he2⟩:∃e2,g.ends[(oU c g.zx).1.toNat]?=some e2:=⟨_,gk aw⟩;have n2:=((gv.mG.2 g (gu su.fY)).2.2 e2 (gu he2)).2;have st2:=(st.mono aw aw:St (N+1) (K+1) w).np su.at_ (e':=qK e e.head e.zj) (tk:=IntKind.u64.wrap (g.zx+1)) f1 V f6 (zxi _) aM;have eset:g.ends.set m.end_.toNat (qK e e.head e.zj)=g.ends:=xV _ _ su.ib;have s1:=(gh.1 su.fZ).1;have s2:=(gh.1 su.fY).1;have so:=su.other;unfold qe;rw[gp aw,gp aw,gp aw,gp aw,gz p,hc,gK]
 exact zF V ⟨tM,st2,Ei tg1 su.at_ (e':=qK e e.head e.zj) (ET tg1 su.at_),uO,rfl,rfl,DY su.at_ (e':=qK e e.head e.zj) (Ds.refl e _),Sb su.at_ (e':=qK e e.head e.zj) V V V (nM (ic su.done hk uM) (ic su.done hk uM) V),.inr ⟨_,_,e2,⟨qf.2 st2.qI,su.zf,su.done,aq su.version,gD s1,aq su.zg,gD s2,⟨tr.1,by show _<(((g.ends.set m.end_.toNat (qK e e.head e.zj)).length:Nat):Int);rw[eset];show(oU c g.zx).1<_;omega⟩,by show(g.ends.set m.end_.toNat (qK e e.head e.zj))[(oU c g.zx).1.toNat]?=some e2;rw[eset];exact he2,aq so,⟨aK,aL⟩,su.listen,su.i,su.k⟩,
  ⟨uL,uK,λ_=>l0,uK,uK,uK,uK,uK,uK,uK⟩⟩⟩
theorem Uz(st:St N K w)(tg:Tg N w)(su:qt w m v g e)(tm:iy m)(lo:iT w m v g e)(hk:m.op.kind=1)(p:m.pc=7):∃r,qe w m v g e=some r/\Nc N K w m iT mN r:=by
 obtain⟨f1,f2,f3,f4,f5,f6,f7⟩:=kR st su;have l0:=lo.fP (.inl aw);unfold qe;rw[gp aw,gp aw,gp aw,gp aw,gp aw,gz p]
 exact zF V ⟨uX,st.mono aw aw,tg.mono (ru N),uO,rfl,rfl,xb.refl w _,qs w (nM (ic su.done hk uM) (ic su.done hk uM) V),.inr ⟨v,g,e,⟨su.world,su.zf,su.done,su.version,su.fZ,su.zg,su.fY,su.end_,su.ib,su.other,su.slot,su.listen,f4,su.k⟩,
  ⟨uL,uK,λ_=>l0,uK,λ_=>lo.Ct aw,uK,uK,uK,uK,uK⟩⟩⟩
theorem UA(st:St N K w)(tg:Tg N w)(su:qt w m v g e)(tm:iy m)(lo:iT w m v g e)(hk:m.op.kind=1)(p:m.pc=8):∃r,qe w m v g e=some r/\Nc N K w m iT mN r:=by
 have gv:=(st.qI.fW _ v su.fZ).1;have tg1:=tg.mono (ru N);have l0:=lo.fP (.inl aw);have z:=lo.Ct aw;have so:=su.other;obtain⟨e2,he2⟩:∃e2,g.ends[m.other.toNat]?=some e2:=⟨_,gk aw⟩;have n2:=((gv.mG.2 g (gu su.fY)).2.2 e2 (gu he2)).2;unfold qe;rw[gp aw,gp aw,gp aw,gp aw,gp aw,gp aw,gz p,he2,gK];by_cases q:e2.zj<m.i
 .rw[gz q]
  exact zF V ⟨uX,st.mono aw aw,tg1,uO,rfl,rfl,xb.refl w _,qs w (nM (ic su.done hk uM) (ic su.done hk uM) V),.inr ⟨v,g,e2,⟨su.world,su.zf,su.done,su.version,su.fZ,su.zg,su.fY,so,he2,so,⟨aK,aL⟩,su.listen,su.i,su.k⟩,
   ⟨uL,uK,λ_=>l0,uK,uK,uK,uK,uK,uK,uK⟩⟩⟩
 .rw[gp q]
  exact zF V ⟨uX,st.mono aw aw,tg1,uO,rfl,rfl,xb.refl w _,qs w (nM (ic su.done hk uM) (ic su.done hk uM) V),.inr ⟨v,g,e,uQ,
   ⟨uL,uK,λ_=>l0,uK,uK,uK,uK,uK,uK,uK⟩⟩⟩
theorem UB(st:St N K w)(tg:Tg N w)(su:qt w m v g e)(tm:iy m)(lo:iT w m v g e)(hk:m.op.kind=1)(p:m.pc=9):∃r,qe w m v g e=some r/\Nc N K w m iT mN r:=by
 obtain⟨f1,f2,f3,f4,f5,f6,f7⟩:=kR st su;have tg1:=tg.mono (ru N);have l0:=lo.fP (.inl aw);unfold qe;rw[gp aw,gp aw,gp aw,gp aw,gp aw,gp aw,gp aw,gz p];by_cases q:0<=zA e.head/\zA e.head<e.next.length
 .rw[gz q]
  exact zF V ⟨uX,st.mono aw aw,tg1,⟨tm.listen,f6.1,tm.link,tm.host,tm.path,tm.d0,tm.d1,tm.cfg,tm.nA⟩,rfl,rfl,xb.refl w _,qs w (nM (ic su.done hk uM) (ic su.done hk uM) V),.inr ⟨v,g,e,⟨su.world,su.zf,su.done,su.version,su.fZ,su.zg,su.fY,su.end_,su.ib,su.other,q,su.listen,su.i,su.k⟩,
   ⟨uL,uK,λ_=>l0,uK,uK,uK,λ_=>⟨rfl,gO _⟩,uK,uK,uK⟩⟩⟩
 .rw[gp q];exact zF V ⟨uX,st.mono aw aw,tg1,⟨tm.listen,f6.1,tm.link,tm.host,tm.path,tm.d0,tm.d1,tm.cfg,(λh=>absurd ((show m.op.kind=6 from h).symm.trans hk) ar)⟩,rfl,rfl,xb.refl w _,qs w (nM (ic su.done hk uM) (ic su.done hk uM) V),.inr ⟨v,g,e,uQ,⟨uL,uK,uK,uK,uK,uK,uK,uK,λ_=>⟨by show(1:Int)<=4;decide,by show(4:Int)<=5;decide,λh=>absurd (show(4:Int)=1 from h) ar⟩,uK⟩⟩⟩
def zyp(f1:Slp.fV e=true)(h0:0<=s)(h1:s<e.next.length):∃x,e.next[s.toNat]?=some x:=⟨_,gk aw⟩
theorem zyF(st:St N K w)(tg:Tg N w)(su:qt w m v g e)(tm:iy m)(lo:iT w m v g e)(hk:m.op.kind=1)(p:m.pc=10):∃r,qe w m v g e=some r/\Nc N K w m iT mN r:=by
 obtain⟨f1,f2,f3,f4,f5,f6,f7⟩:=kR st su;have tg1:=tg.mono (ru N);have l0:=lo.fP (.inl aw);obtain⟨z1,z2⟩:=lo.slot (.inl p);have ss:=su.slot;obtain⟨x,hx⟩:=zyp f1 ss.1 ss.2;have hb:=(ET tg su.at_).2 x (gu hx);unfold qe;rw[gp aw,gp aw,gp aw,gp aw,gp aw,gp aw,gp aw,gp aw,gz p,hx,gK]
 exact zF V ⟨uX,st.mono aw aw,tg1,⟨tm.listen,tm.word,by show -1<=x/\x<=2147483646;omega,tm.host,tm.path,tm.d0,tm.d1,tm.cfg,tm.nA⟩,rfl,rfl,xb.refl w _,qs w (nM (ic su.done hk uM) (ic su.done hk uM) V),.inr ⟨v,g,e,uQ,
  ⟨uL,uK,λ_=>l0,uK,uK,uK,λ_=>⟨z1,z2⟩,λ_ _=>hx,uK,uK⟩⟩⟩
def YC(f1:Slp.fV e=true)(f2:e.next.length<=4):Slp.zA e<=3:=by
 by_cases h:Slp.zA e<0
 .omega
 .have:=(Slp.R5 f1 h).2.1;omega
def QV{x:Int}(h:x / 4294967296<=N)(hx:u64 x)(hN:N<=100000000)(h1: -1<=i)(h2:i<=2147483646):Slp.qY x i / 4294967296=x / 4294967296+1:=by
 have:=Slp.ztC (x:=x) h1 h2
 grind [u64]
theorem zyG(st:St N K w)(tg:Tg N w)(su:qt w m v g e)(tm:iy m)(lo:iT w m v g e)(hk:m.op.kind=1)(hN:N<=100000000)(p:m.pc=11):∃r,qe w m v g e=some r/\Nc N K w m iT mN r:=by
 obtain⟨f1,f2,f3,f4,f5,f6,f7⟩:=kR st su;have tg1:=tg.mono (ru N);have te:=ET tg su.at_;have l0:=lo.fP (.inl aw);obtain⟨z1,z2⟩:=lo.slot (.inr p);have ss:=su.slot;unfold qe;rw[gp aw,gp aw,gp aw,gp aw,gp aw,gp aw,gp aw,gp aw,gp aw,gz p];by_cases q:e.head=m.word
 .have z3:=lo.link p q;have hh:Slp.zA e=m.slot:=by rw[z1,<-q];rfl
  have hx2:Slp.iR e.next m.slot=m.link:=by unfold Slp.iR;rw[z3];rfl
  have ct:=(Slp.J8 (Slp.CG f1).1 aw).2.1;rw[hh,hx2]at ct;have hd:Slp.zA (qK e (Slp.qY m.word m.link) e.zj)=m.link:=Slp.Kg tm.link.1 tm.link.2
  have is2:Slp.fV (qK e (Slp.qY m.word m.link) e.zj)=true:=by
   unfold Slp.fV
   grind
  have nt:=QV (i:=m.link) te.1 f6.1 hN tm.link.1 tm.link.2;rw[q]at nt;obtain⟨q1,q2⟩:=zwu f6 f1 hh ss.1 hx2;rw[q]at q1 q2;have st2:=(st.mono aw aw:St (N+1) (K+1) w).np su.at_ (e':=qK e (Slp.qY m.word m.link) e.zj) (tk:=g.zx) is2 V ⟨Slp.Lb tm.link.1 tm.link.2,f6.2⟩ f7 aM;rw[gz q];have ta:nn (qK e (Slp.qY m.word m.link) e.zj)=nn e+1:=by grind [nn]
  exact zF V ⟨aN,st2,Ei tg1 su.at_ (e':=qK e (Slp.qY m.word m.link) e.zj) ⟨by have:=te.1;omega,te.2⟩,uO,rfl,rfl,DY su.at_ (e':=qK e (Slp.qY m.word m.link) e.zj) ⟨rfl,aw,λh=>by omega,λ_ _ _=>V⟩,
   AZ (p:=1) (p':=2) (ic su.done hk uM) (ic su.done hk uM) (zz5 su.at_ (e':=qK e (Slp.qY m.word m.link) e.zj) V ss.1 ss.2 q1 q2 V m.listen),.inr ⟨_,_,_,Fx (e':=qK e (Slp.qY m.word m.link) e.zj) (m':={m with pc:=12}) su V st2.qI V su.done V V V V V V V V,
   ⟨uL,uK,λ_=>l0,uK,uK,uK,uK,uK,uK,uK⟩⟩⟩
 .rw[gp q]
  exact zF V ⟨aO,st.mono aw aw,tg1,uO,rfl,rfl,xb.refl w _,qs w (nM (ic su.done hk uM) (ic su.done hk uM) V),.inr ⟨v,g,e,uQ,
   ⟨uL,uK,λ_=>l0,uK,uK,uK,uK,uK,uK,uK⟩⟩⟩
theorem zyH(st:St N K w)(tg:Tg N w)(su:qt w m v g e)(tm:iy m)(lo:iT w m v g e)(hk:m.op.kind=1)(hK:K<=1099511627776)(p:m.pc=12):∃r,qe w m v g e=some r/\Nc N K w m iT mN r:=by
 obtain⟨f1,f2,f3,f4,f5,f6,f7⟩:=kR st su;have tg1:=tg.mono (ru N);have l0:=lo.fP (.inl aw);have hw:IntKind.i64.wrap (e.zj+1)=e.zj+1:=z7 aw aw;have st2:=(st.mono aw aw:St (N+1) (K+1) w).np su.at_ (e':=qK e e.head (e.zj+1)) (tk:=g.zx) (R6 f1 _ aw) V ⟨f6.1,f6.2.1,by show i64 (e.zj+1);unfold i64;omega⟩ f7 (by show e.zj+1<=_;omega);unfold qe;rw[gp aw,gp aw,gp aw,gp aw,gp aw,gp aw,gp aw,gp aw,gp aw,gp aw,gz p,hw]
 exact zF V ⟨tM,st2,Ei tg1 su.at_ (e':=qK e e.head (e.zj+1)) (show Cn (N+1) e from ET tg1 su.at_),uP,rfl,rfl,DY su.at_ (e':=qK e e.head (e.zj+1)) ⟨rfl,gO _,λ_=>V,λ_ _ _=>V⟩,
  AZ (p:=2) (p':=3) (ic su.done hk uM) (ic su.done hk uM) (zym su.at_ (e':=qK e e.head (e.zj+1)) V V f4 V m.slot m.listen),.inr ⟨_,_,_,Fx (e':=qK e e.head (e.zj+1)) (m':={m with answer:=Es m,pc:=20}) su V st2.qI V su.done V V V V V V V V,
  ⟨uL,uK,uK,uK,uK,uK,uK,uK,λ_=>⟨by show(1:Int)<=1;decide,by show(1:Int)<=5;decide,λ_=>⟨rfl,l0⟩⟩,uK⟩⟩⟩
theorem zyI(st:St N K w)(tg:Tg N w)(su:qt w m v g e)(tm:iy m)(lo:iT w m v g e)(hk:m.op.kind=1)(p:m.pc=20):∃r,qe w m v g e=some r/\Nc N K w m iT mN r:=by
 have kr:=Zs m.answer.kind;obtain⟨r2,hl,hc⟩:=Pk st su (pc:=21) kr.1 kr.2;have st2:=(st.mono aw aw:St (N+1) (K+1) w).count m.zf.toNat hl;have an:=lo.nA aw
 have ow:j3 m=j3 {m with pc:=21}:=by
  by_cases k1:m.answer.kind=1
  .exact ED (p:=3) (ic su.done hk uM) (ic su.done hk uM) V V V V V
  .by_cases k2:0<=m.listen
   .exact nM (ic su.done hk uM) (ic su.done hk uM) V
   .exact wP (ic su.done hk uM) (ic su.done hk uM)
 unfold qe;rw[gp aw,gp aw,gp aw,gp aw,gp aw,gp aw,gp aw,gp aw,gp aw,gp aw,gp aw,gz p,hc]
 exact zF V ⟨tM,st2,tg.mono (ru N),uO,rfl,rfl,yu (gO _) V aj V V V,Ef V V V V V ow,.inr ⟨v,g,e,⟨qf.2 st2.qI,su.zf,su.done,su.version,su.fZ,su.zg,su.fY,su.end_,su.ib,su.other,su.slot,su.listen,su.i,su.k⟩,
  ⟨uL,uK,uK,uK,uK,uK,uK,uK,λ_=>an,uK⟩⟩⟩
theorem zyJ(st:St N K w)(tg:Tg N w)(su:qt w m v g e)(tm:iy m)(lo:iT w m v g e)(hk:m.op.kind=1)(p:m.pc=21):∃r,qe w m v g e=some r/\Nc N K w m iT mN r:=by
 obtain⟨r2,hl,hc⟩:=Pk st su (k:=0) (pc:=if m.answer.kind=1\/m.listen<0 then 23 else 22) ar ar;have st2:=(st.mono aw aw:St (N+1) (K+1) w).count m.zf.toNat hl;have an:=lo.nA aw;unfold qe;rw[gp aw,gp aw,gp aw,gp aw,gp aw,gp aw,gp aw,gp aw,gp aw,gp aw,gp aw,gp aw,gz p,hc];by_cases q:m.answer.kind=1\/m.listen<0
 .rw[gz q]
  have ow:j3 m=j3 {m with pc:=23}:=by
   by_cases k1:m.answer.kind=1
   .exact ED (p:=3) (ic su.done hk uM) (ic su.done hk uM) V V V V V
   .exact wP (ic su.done hk uM) (ic su.done hk uM)
  exact zF V ⟨tM,st2,tg.mono (ru N),uO,rfl,rfl,yu (gO _) V aj V V V,Ef V V V V V ow,.inr ⟨v,g,e,⟨qf.2 st2.qI,su.zf,su.done,su.version,su.fZ,su.zg,su.fY,su.end_,su.ib,su.other,su.slot,su.listen,su.i,su.k⟩,
   ⟨uL,uK,uK,uK,uK,uK,uK,uK,λ_=>an,uK⟩⟩⟩
 .rw[gp q]
  exact zF V ⟨tM,st2,tg.mono (ru N),uO,rfl,rfl,yu (gO _) V aj V V V,Ef V V V V V (nM (ic su.done hk uM) (ic su.done hk uM) V),.inr ⟨v,g,e,⟨qf.2 st2.qI,su.zf,su.done,su.version,su.fZ,su.zg,su.fY,su.end_,su.ib,su.other,su.slot,su.listen,su.i,su.k⟩,
   ⟨uL,uK,λ_=>by show 0<=m.listen;omega,uK,uK,uK,uK,uK,λ_=>an,λ_ h=>q (.inl h)⟩⟩⟩
def FX(ow:∀x,j3 m x<=Has w x)(h:ph m=p)(x:Key)(hx:1<=qj p m.version m.zg m.end_ m.slot m.listen x):1<=Has w x:=by
 have:=ow x;rw[jl h]at this;omega
def Q3(ow:∀x,j3 m x<=Has w x)(h:ph m=p)(hp:1<=p/\p<=4):0<=m.listen/\∃x,w.zc[m.listen.toNat]?=some x/\1<=x.zj:=by
 have:=FX ow h (.fP m.listen) (by simp[qj,hp])
 grind [Has]
theorem zyK(st:St N K w)(tg:Tg N w)(su:qt w m v g e)(tm:iy m)(lo:iT w m v g e)(hk:m.op.kind=1)(hK:K<=1099511627776)(ow:∀x,j3 m x<=Has w x)(p:m.pc=22):∃r,qe w m v g e=some r/\Nc N K w m iT mN r:=by
 have l0:=lo.fP (.inr p);have k1:=lo.kind p;have p1:ph m=1:=(ic su.done hk uM);obtain⟨_,x,hx,x1⟩:=Q3 ow p1 ar;have ca:=st.i5.fP x (gu hx);have hw:IntKind.i64.wrap (x.zj-1)=x.zj-1:=z7 aw aw;have st2:=LQ st su hx (x.zj-1) aw aw hK;have an:=lo.nA aw;unfold qe w9;rw[gp aw,gp aw,gp aw,gp aw,gp aw,gp aw,gp aw,gp aw,gp aw,gp aw,gp aw,gp aw,gp aw,gz p,gp aw,hx,gK];unfold CT;rw[hw]
 exact zF V ⟨tM,st2,tg.mono (ru N),uO,rfl,rfl,FI hx V id,AZ (p:=1) (p':=0) p1 (ic su.done hk uM) (QT l0 hx x1 V _ _ _ _ _ _ _ _ _),.inr ⟨v,g,e,⟨qf.2 st2.qI,su.zf,su.done,su.version,su.fZ,su.zg,su.fY,su.end_,su.ib,su.other,su.slot,aq su.listen,su.i,su.k⟩,
  ⟨uL,uK,uK,uK,uK,uK,uK,uK,λ_=>an,uK⟩⟩⟩
theorem zyL(st:St N K w)(tg:Tg N w)(su:qt w m v g e)(tm:iy m)(lo:iT w m v g e)(hk:m.op.kind=1)(p:m.pc=23):∃r,qe w m v g e=some r/\Nc N K w m iT mN r:=by
 have ep:=(zU.1 st.qI.ground).zl;have st2:=(st.mono aw aw:St (N+1) (K+1) w).mP m.zf.toNat (p:=0) aw aw;have an:=lo.nA aw
 have ow:j3 m=j3 {m with done:=true}:=by
  by_cases k1:m.answer.kind=1
  .exact ED (p:=3) (ic su.done hk uM) (PX V hk k1) V V V V V
  .exact wP (ic su.done hk uM) (vc V (λh=>k1 h.2))
 unfold qe;rw[gp aw,gp aw,gp aw,gp aw,gp aw,gp aw,gp aw,gp aw,gp aw,gp aw,gp aw,gp aw,gp aw,gp aw,gz p];exact zF V ⟨tI,st2,tg.mono (ru N),uP,rfl,rfl,yu (gO _) aj V V V V,Ef V V V V V ow,.inl ⟨rfl,an⟩⟩
def Y8(st:St N K w)(tg:Tg N w)(su:qt w m v g e)(tm:iy m)(lo:iT w m v g e)(hk:m.op.kind=1)(hN:N<=100000000)(hK:K<=1099511627776)(ow:∀x,j3 m x<=Has w x):∃r,qe w m v g e=some r/\Nc N K w m iT mN r:=by
 have pc:=lo.pc;by_cases h3:m.pc<3
 .grind [zyM]
 rcases(by omega:m.pc=3\/m.pc=4\/m.pc=5\/m.pc=6\/m.pc=7\/m.pc=8\/m.pc=9\/m.pc=10\/m.pc=11\/m.pc=12\/m.pc=20\/m.pc=21\/m.pc=22\/m.pc=23) with p|p|p|p|p|p|p|p|p|p|p|p|p|p
 .grind [Uv]
 .grind [Uw]
 .grind [Ux]
 .grind [Uy]
 .grind [Uz]
 .grind [UA]
 .grind [UB]
 .grind [zyF]
 .grind [zyG]
 .grind [zyH]
 .grind [zyI]
 .grind [zyJ]
 .grind [zyK]
 grind [zyL]
end
end Go.Wor
