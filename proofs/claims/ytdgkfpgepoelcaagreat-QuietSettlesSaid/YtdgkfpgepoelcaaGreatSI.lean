import Derived.Test.YtdgkfpgepoelcaaGreatSY
import Derived.Test.YtdgkfpgepoelcaaGreatSG
import Derived.Test.YtdgkfpgepoelcaaGreatSH
import Derived.Test.YtdgkfpgepoelcaaGreatSZ
set_option linter.all false
set_option maxRecDepth 100000
set_option maxHeartbeats 4000000
namespace Go.Wor
open Go.Ab Go.Proofs Tryz Go.Hy Go.Gat Go.Nam Go.Hos Go.Con Go.Sna
variable{e:En}{v:rL}{w:Wor}{N i:Nat}
abbrev nV:=Option (Wor×rH×rV)
abbrev J0(x:rS):rS:={x with zt:=IntKind.i64.wrap (x.zt+1)}
abbrev zx(x:Int):Int:=x%4294967296-1
abbrev JU(m:rH):r3:=⟨1,m.version,m.zn,m.end_,m.slot,m.listen,0,⟨0,0,0,0,0,0⟩⟩
abbrev J2(p:Int):r3:=⟨10,0,0,0,0,p,0,⟨0,0,0,0,0,0⟩⟩
def sE(w:Wor)(m:rH):Wor×rH×rV:=match w.zc[m.i.toNat]? with
 |none=>({w with lock:=0},{m with done:=true,answer:=ud 11 m.answer.n},{rY m 2 14 0 with done:=true,answer:=ud 11 m.answer.n})
 |some l=>(w,eZ m l,Cx m l)
def qZ(w:Wor)(m:rH):nV:=
 if m.pc=0 then some (if w.lock=0 then ({w with lock:=1},{m with pc:=1},rY m 4 14 1) else (w,{m with done:=true,answer:=tT 12},{rY m 5 14 1 with done:=true,answer:=tT 12}))
 else if m.pc=1 then some (w,{m with zl:=w.zl,pc:=2,i:=0},rY m 1 1 w.zl)
 else if m.pc=2 then (w.pins[m.i.toNat]?).map λp=>(w,tu w m p,rY m 1 2 p)
 else if m.pc=3 then some (if w.zl=m.zl/\w.zl<1000000000000 then ({w with zl:=IntKind.i64.wrap (w.zl+1)},{rW m 4 0 with zl:=IntKind.i64.wrap (w.zl+1)},rY m 4 1 (IntKind.i64.wrap (w.zl+1))) else (w,rW m 4 0,rY m 5 1 w.zl))
 else if m.pc=4 then some (match w.zi[m.i.toNat]? with|none=>sE w (rW m 8 0)|some r=>(w,tz m r,rY m 1 11 r.version))
 else if m.pc=5 then (w.zd[m.version.toNat]?).bind λv=>((zY v)[m.k.toNat]?).map λe=>(w,tL m v e.zt,lr m v e.zt)
 else if m.pc=6 then (w.zd[m.version.toNat]?).bind λv=>(w.zi[m.i.toNat]?).bind λr=>if r.version=m.version/\r.gone=false then
  some ({w with zd:=w.zd.set m.version.toNat (x7 v),zi:=w.zi.set m.i.toNat (xb r)},tY m,rY m 2 12 m.version) else none
 else if m.pc=8 then some (sE w m)
 else if m.pc=9 then (w.zc[m.i.toNat]?).map λl=>(w,if l.zt=0 then {m with pc:=10} else rW m 8 (IntKind.i64.wrap (m.i+1)),rY m 1 5 l.zt)
 else if m.pc=10 then (w.zc[m.i.toNat]?).bind λl=>if l.drain then some ({w with zc:=w.zc.set m.i.toNat (vo l)},rW m 8 (IntKind.i64.wrap (m.i+1)),rY m 2 13 1) else none
 else none
structure tK(N:Nat)(w:Wor):Prop where
 yk:w.zd.length<=N
 rU:w.zc.length<=N
 sD:w.zi.length<=N
 sL:∀v∈w.zd,x4 v.snap/\∀g∈v.zg,u64 g.yi/\∀e∈g.ends,e.ok
 tv:∀l∈w.zc,l.ok
structure tn(m:rH):Prop where
 listen:i64 m.listen
 word:u64 m.word
 link: -1<=m.link/\m.link<=2147483646
 host:m.op.host.length<4000000000000
 path:m.op.path.length<4000000000000
 d0:i64 m.op.d0
 d1:i64 m.op.d1
 cfg:m.op.kind=3->kM m.op.config
 nX:m.op.kind=6->m.done=false->m.answer=wN
structure BW(x:r7)(e:En):Prop where
 is:Slp.rR e=true
 len:(e.next.length:Int)=x.xd
structure kA(v:rL):Prop where
 snap:vX v.snap=true
 len:v.zg.length=v.snap.ze.length
 fR:∀(i:Nat) g x,v.zg[i]?=some g->v.snap.ze[i]?=some x->g.ends.length=x.zG.length/\∀e∈g.ends,BW x e
def wA{x:r7}:jz x e=false↔BW x e:=by
 unfold jz;constructor
 .intro h;simp at h;exact⟨h.1,h.2⟩
 .rintro⟨h1,h2⟩;simp[h1,h2]
def fY:xN v=true↔kA v:=by
 unfold xN;simp only[c9,dm,c8,gG];constructor
 .rintro⟨⟨h1,h2⟩,h3⟩;refine⟨h1,h2,λi g x hg hx=>?_⟩;have:=h3 i (cW.1 hg).1;unfold xL at this;rw[hg,hx]at this;simp only[c9,dm,dG,dv]at this;exact⟨this.1,λe he=>wA.1 (by simpa using this.2 e he)⟩
 .rintro⟨h1,h2,h3⟩;refine⟨⟨h1,h2⟩,λi hi=>?_⟩;unfold xL;split
  .rename_i g x hg hx;obtain⟨h4,h5⟩:=h3 i g x hg hx;simp only[c9,dm,dG,dv];exact⟨h4,λe he=>by simp[wA.2 (h5 e he)]⟩
  .rfl
structure qg(w:Wor):Prop where
 ground:qn w=true
 current:0<=w.current/\w.current<w.zd.length
 zi:Go.Lim.rR w.zi=true
 bad:∀r∈w.zi,jA w r=false
 sf:∀(i:Nat) v,w.zd[i]?=some v->kA v/\v.qQ=jW w.zi i
 rU:∀(i:Nat) l,w.zc[i]?=some l->Go.Gat.rR l=true/\qy w.zc l.name=i
def qJ:qf w=true↔qg w:=by
 unfold qf;simp only[c9,dm,c8,gG,dG,dv];constructor
 .rintro⟨⟨⟨⟨⟨h1,h2⟩,h3⟩,h4⟩,h5⟩,h6⟩;refine⟨h1,h2,h3,λr hr=>by simpa using h4 r hr,λi v hv=>?_,λi l hl=>?_⟩
  .have:=h5 i (cW.1 hv).1;unfold v7 at this;rw[hv]at this;simp only[c9,dH]at this;exact⟨fY.1 this.1,this.2⟩
  .have:=h6 i (cW.1 hl).1;unfold vi at this;rw[hl]at this;simpa using this
 .rintro⟨h1,h2,h3,h4,h5,h6⟩;refine⟨⟨⟨⟨⟨h1,h2⟩,h3⟩,λr hr=>by simp[h4 r hr]⟩,λi hi=>?_⟩,λi hi=>?_⟩
  .unfold v7;split
   .rename_i v hv;obtain⟨a,b⟩:=h5 i v hv;simp[fY.2 a,b]
   .rfl
  .unfold vi;split
   .rename_i l hl;obtain⟨a,b⟩:=h6 i l hl;simp[a,b]
   .rfl
def kA.tq(h:kA v):v.zg.length<=4/\∀g∈v.zg,g.ends.length<=4/\1<=g.ends.length/\∀e∈g.ends,Slp.rR e=true/\e.next.length<=4/\1<=e.next.length:=by
 have gn:=y4 h.snap;refine⟨by have:=gn.ze.2;have:=h.len;omega,λg hg=>?_⟩;obtain⟨i,hi⟩:=di.1 hg;have rF:=(cW.1 hi).1;obtain⟨x,hx⟩:∃x,v.snap.ze[i]?=some x:=⟨_,cV (by have:=h.len;omega)⟩;obtain⟨h1,h2⟩:=h.fR i g x hi hx;have gx:=gn.all x (cZ hx);refine⟨by have:=gx.zG.2;omega,by have:=gx.zG.1;omega,λe he=>?_⟩;have ge:=h2 e he;have gs:=gx.xd;exact⟨ge.is,by have:=ge.len;omega,by have:=ge.len;omega⟩
structure nU(w:Wor):Prop where
 pins:1<=w.pins.length/\w.pins.length<=8
 counts:w.counts.length=w.pins.length/\∀r∈w.counts,r.length=6
 zl:0<=w.zl/\w.zl<=1000000000000
 lock:w.lock=0\/w.lock=1
 sW:∀p∈w.pins,0<=p/\p<=w.zl+1
def zZ:qn w=true↔nU w:=by
 unfold qn jl;simp only[c9,gf,dm,c8,dG,dv,dH];constructor
 .rintro⟨⟨⟨⟨⟨⟨⟨h1,h2⟩,h3⟩,⟨h4,h5⟩,h6⟩,h7⟩,h8⟩,h9⟩,h10⟩;exact⟨⟨h1,h2⟩,⟨h3,h4⟩,⟨h7,h8⟩,h9,λp hp=>by have:=h10 p hp;simp[yH]at this;omega⟩
 .rintro⟨⟨h1,h2⟩,⟨h3,h4⟩,⟨h7,h8⟩,h9,h10⟩;exact⟨⟨⟨⟨⟨⟨⟨h1,h2⟩,h3⟩,⟨h4,ah⟩,ah⟩,h7⟩,h8⟩,h9⟩,λp hp=>by have:=h10 p hp;simp[yH];omega⟩
def B9(h:qg w)(t:tK N w)(hN:N<=100000000):x3 w:=by
 have g:=zZ.1 h.ground;refine⟨by have:=g.pins;omega,⟨by have:=t.yk;omega,λv hv=>?_⟩,by have:=t.rU;omega,⟨bc,λr hr=>by have:=g.counts.2 r hr;omega⟩,by have:=t.sD;omega⟩;obtain⟨i,hi⟩:=di.1 hv;have f:=(h.sf i v hi).1.tq;exact⟨ah,λg hg=>⟨by have:=(f.2 g hg).1;omega,λe he=>by have:=((f.2 g hg).2.2 e he).2;omega⟩⟩
def iQ(h:qg w)(t:tK N w)(hN:N<=100000000):so w:=by
 have g:=zZ.1 h.ground;refine⟨by have:=g.pins;omega,⟨by have:=t.yk;omega,λv hv=>?_⟩,⟨by have:=t.rU;omega,t.tv⟩,⟨bc,λr hr=>by have:=g.counts.2 r hr;omega⟩,by have:=t.sD;omega⟩;obtain⟨i,hi⟩:=di.1 hv;have f:=(h.sf i v hi).1.tq;have o:=t.sL v hv;exact⟨o.1,ah,λg hg=>⟨by have:=(f.2 g hg).1;omega,(o.2 g hg).2⟩⟩
def fg(h:qg w)(hv:w.zd[i]?=some v):tx v:=by
 have f:=(h.sf i v hv).1.tq;exact⟨ah,λg hg=>by have:=(f.2 g hg).1;omega⟩
theorem yg{α:Type}(l:List α)(i:Nat){x:α}(h:l[i]?=some x):l.set i x=l:=by
 obtain⟨h1,rfl⟩:=cW.1 h;exact List.set_getElem_self h1
abbrev IV(f:FuncId)(w:Wor)(m:rH)(r:Wor×rH×rV):Prop:=tc f [] [Cw w,Cm m] (.rO [Cw r.1,Cm r.2.1,Ce r.2.2]) []
def x5.at_{m:rH}{g:Gr}(su:x5 w m v g e):eU w m v g e:=⟨⟨⟨su.version.1,su.sC⟩,su.zn.1,su.sG⟩,su.end_.1,su.sJ⟩
section
variable {N:Nat} {w:Wor} {m:rH} {v:rL} {g:Gr} {e:En} {r:Wor×rH×rV}
end
section
variable {N:Nat} {w:Wor} {m:rH} {v:rL} {g:Gr} {e:En} {r:Wor×rH×rV}
def yc(gw:qg w){x:rP}(hx:w.zi[i]?=some x):0<=x.at_/\x.at_<=w.zl/\0<=x.version/\x.version<w.zd.length/\x.version≠w.current:=by
 have h1:=gw.bad x (cZ hx);have h2:=dq (show decide (∀i,(h:i<w.zi.length)->Go.Lim.sd w.zi i w.zi[i]=true)=true from gw.zi) i (cW.1 hx).1;rw[(cW.1 hx).2]at h2;unfold jA at h1;unfold Go.Lim.sd at h2;simp at h1 h2;omega
def Bw(h0:0<=m.i):tc 235 [oW w,oM m] [.agg ta] (Ce (sE w m).2.2) [⟨1,28,8,[u9 (sE w m).1],0⟩,⟨1,86,44,[fO (sE w m).2.1],0⟩]:=by
 unfold sE;cases hx:w.zc[m.i.toNat]? with
 |none=>exact kS w m (by have:=dI.1 hx;omega)
 |some l=>exact CQ w m l h0 hx
def DF(su:x5 w m v g e)(hs:qe w m=true)(t:tK N w)(tm:tn m)(hN:N<=100000000)(h:qZ w m=some r):IV 181 w m r:=by
 have gw:=qJ.1 su.world;have sw:=B9 gw t hN;have ok:=iQ gw t hN;have hl:=tm.listen;have av:=su.at_.toed;unfold qZ at h;by_cases p:m.pc=0
 .rw[c7 p]at h;by_cases q:w.lock=0
  .rw[c7 q]at h;cases h
   (exact qu sw ok hl hs (qT w m ah) 0 _ V (λ_ _ _ _ _ _ _ _ _ _=>by rw[p];rfl) V (Dm w m q))
  .rw[c6 q]at h;cases h
   (exact qu sw ok hl hs (qT w m ah) 0 _ V (λ_ _ _ _ _ _ _ _ _ _=>by rw[p];rfl) V (Eb w m q))
 rw[c6 p]at h
 clear p
 by_cases p:m.pc=1
 .rw[c7 p]at h;cases h
  (exact qu sw ok hl hs (qT w m ah) 1 _ V (λ_ _ _ _ _ _ _ _ _ _=>by rw[p];rfl) V (Go.Wor.CZ w m))
 rw[c6 p]at h
 clear p
 by_cases p:m.pc=2
 .rw[c7 p]at h;obtain⟨x,hx,rfl⟩:=gh.1 h;have rF:=(cW.1 hx).1;have si:=su.i;exact qu sw ok hl hs (ET w m p ah) 2 _ V (λ_ _ _ _ _ _ _ _ _ _=>by rw[p];rfl) V (Dl w m x su.i hx)
 rw[c6 p]at h
 clear p
 by_cases p:m.pc=3
 .rw[c7 p]at h;by_cases q:w.zl=m.zl/\w.zl<1000000000000
  .rw[c7 q]at h;cases h
   (exact qu sw ok hl hs (qT w m ah) 3 _ V (λ_ _ _ _ _ _ _ _ _ _=>by rw[p];rfl) V (wq w m q.1 q.2))
  .rw[c6 q]at h;cases h
   (exact qu sw ok hl hs (qT w m ah) 3 _ V (λ_ _ _ _ _ _ _ _ _ _=>by rw[p];rfl) V (CT w m q))
 rw[c6 p]at h
 clear p
 by_cases p:m.pc=4
 .rw[c7 p]at h;cases hx:w.zi[m.i.toNat]? with
  |none=>
   rw[hx]at h;cases h
   (exact qu sw ok hl hs (qT w m ah) 4 _ V (λ_ _ _ _ _ _ _ _ _ _=>by rw[p];rfl) V (kT (by have:=dI.1 hx;have:=su.i;omega) (Bw (m:=rW m 8 0) (gC _))))
  |some x=>
   rw[hx]at h;cases h
   have la:=yc gw hx;have ge:=(zZ.1 gw.ground).zl
   (exact qu sw ok hl hs (qT w m ah) 4 _ V (λ_ _ _ _ _ _ _ _ _ _=>by rw[p];rfl) V (C0 w m x ⟨ah,ah⟩ su.i hx))
 rw[c6 p]at h
 clear p
 by_cases p:m.pc=5
 .rw[c7 p]at h;obtain⟨v',hv',h⟩:=dP.1 h;obtain⟨x,hx,rfl⟩:=gh.1 h;have rF:=(cW.1 hx).1;have sk:=su.k;exact qu sw ok hl hs (EU w m v' (fg gw hv') p ⟨su.version.1,hv'⟩ ah) 5 _ V (λ_ _ _ _ _ _ _ _ _ _=>by rw[p];rfl) V (CW w m v' x (fg gw hv') ⟨su.version.1,hv'⟩ su.k hx)
 rw[c6 p]at h
 clear p
 by_cases p:m.pc=6
 .rw[c7 p]at h;obtain⟨v',hv',h⟩:=dP.1 h;obtain⟨x,hx,h⟩:=dP.1 h;split at h
  rotate_left
  .cases h
  rename_i q;cases h
  exact DH sw ok hl hs (EV w m x p su.i hx q.1 q.2) 6 _ V (λ_ _ _ _ _ _ _ _ _ _=>by rw[p];rfl) V (by rintro h0;rw[h0]at hv';simp at hv') (by rintro h0;rw[h0]at hx;simp at hx) aj aj (kQ w m v' x ⟨su.version.1,hv'⟩ su.i hx)
 rw[c6 p]at h
 clear p
 by_cases p:m.pc=8
 .rw[c7 p]at h;cases h
  (exact qu sw ok hl hs (qT w m ah) 7 _ V (λ_ _ _ _ _ _ _ _ _ _=>by rw[p];rfl) V (Bw su.i))
 rw[c6 p]at h
 clear p
 by_cases p:m.pc=9
 .rw[c7 p]at h;obtain⟨x,hx,rfl⟩:=gh.1 h;have rF:=(cW.1 hx).1;have si:=su.i;exact qu sw ok hl hs (EW w m p ah) 8 _ V (λ_ _ _ _ _ _ _ _ _ _=>by rw[p];rfl) V (CR w m x su.i hx)
 rw[c6 p]at h
 clear p
 by_cases p:m.pc=10
 .rw[c7 p]at h;obtain⟨x,hx,h⟩:=dP.1 h;split at h
  rotate_left
  .cases h
  rename_i q;cases h
  exact DI sw ok hl hs (Ek w m x p su.i hx q) 9 _ V (λ_ _ _ _ _ _ _ _ _ _=>by rw[p];rfl) V (by rintro h0;rw[h0]at hx;simp at hx) aj (FV w m x su.i hx)
 rw[c6 p]at h;cases h
end
end Go.Wor
namespace Go.Wor
open Go.Ab Go.Proofs Tryz Go.Gat Go.Nam Go.Hos Go.Con Go.Sna Go.Pla
open Go.Hy hiding encI
end Go.Wor
