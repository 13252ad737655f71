import Derived.Test.YtamgiodaflkbhaaGreatVY
import Derived.Test.YtamgiodaflkbhaaGreatVG
import Derived.Test.YtamgiodaflkbhaaGreatVH
import Derived.Test.YtamgiodaflkbhaaGreatVZ
set_option linter.all false
set_option maxRecDepth 100000
set_option maxHeartbeats 4000000
namespace Go.Wor
open Go.Ab Go.Proofs Tryz Go.Hy Go.Gat Go.Nam Go.Hos Go.Con Go.Sna
variable{c:fZ}{i N:Nat}{r:Wor×fx×fF}{l:List fV}{s:Sna}{e:En}{v:fC}{w:Wor}{m:fx}{g:Gr}
def PW(w:Wor)(m:fx)(v:fC)(g:Gr)(e:En)(sw:z6 w)(ok:fG w)(hl:i64 m.listen)(hpc:m.pc=2)(hs:zG w m=true)(hat:ig w m v g e)(hw:u64 m.word)(hh:u64 e.head)(hne:e.head≠m.word):
  th 138 [] [Cw w,Cm m] (.fy [Cw w,Cm {m with pc:=0},Ce (ib m v 5 8 (e.head%4294967296-1))]) []:=by
 have a0:=hat.v0;have a1:=hat.tomK.row;have b0:=hat.g0;have b1:(v.zg.map zy)[m.zp.toNat]?=some (zy g):=by rw[pw,hat.iC];rfl
 have c0:=hat.e0;have c1:(g.ends.map zx)[m.end_.toNat]?=some (zx e):=by rw[pw,hat.iM];rfl
 refine ab func138 ?_;refine zah ?_
 refine zcs ?_
 refine td ?_
 refine af (qz w sw) ?_;refine uE ?_;(refine⟨a0,_,a1,dd ?_⟩)
 (refine⟨b0,_,b1,dd ?_⟩)
 (refine⟨c0,_,c1,dd ?_⟩)
 refine zaI ?_
 refine zbj ?_
 refine zaM ?_
 refine zah ?_
 refine uE ?_;refine⟨λ_=>dd ?_,λh=>absurd h (ai hne)⟩;refine mU.go V (uH ?_);refine zbw ?_
 exact uI
def Oa(w:Wor)(m:fx)(v:fC)(g:Gr)(e:En)(hv:ig w m v g e)(he:u64 e.head)(hi:¬(0<=e.head%4294967296-1/\e.head%4294967296-1<e.next.length)):
  th 215 [oW w,oM m] [.agg tg] (Ce (ib m v 1 8 (e.head%4294967296-1))) [oW w,oM (kB {m with word:=e.head} 4)]:=by
 have ml:(e.next.map Go.Hy.encI).length=e.next.length:=pz ..;refine aa func215 ?_;refine Es [0,1] (wj w m v g e hv) V V V V V V (dd ?_);refine af (Slp.qI e.head he) ?_;refine⟨λq1=>?_,λq1=>?_⟩
 .refine zac ?_
  exact zb1
 .refine dd ?_;refine Es [0,1] (wj w {m with word:=e.head} v g e ⟨⟨⟨hv.v0,hv.at_⟩,hv.g0,hv.iC⟩,hv.e0,hv.iM⟩) V V V V V V (dd ?_);rw[ml];refine⟨λq2=>?_,λq2=>?_⟩
  .refine zac ?_
   exact zb1
  .exact absurd ⟨bS,by simp at q2;omega⟩ hi
abbrev oo:=Option (Wor×fx×fF)
def CF(w:Wor)(m:fx):oo:=
 if m.pc=0 then some (w,{m with zr:=w.zr,pc:=1},nH m (ot w.zr))
 else if m.pc=1 then some (mJ w m.zm.toNat (IntKind.i64.wrap (m.zr+1)),{m with pc:=2},nH m ⟨0,0,2,2,0,false,IntKind.i64.wrap (m.zr+1),false,false,false,kG⟩)
 else if m.pc=2 then some (w,{m with zr:=w.zr,pc:=if w.zr=m.zr then 3 else 1},nH m (ot w.zr))
 else none
abbrev BD(x:fO):fO:={x with zo:=IntKind.i64.wrap (x.zo+1)}
abbrev zQ(x:Int):Int:=x%4294967296-1
abbrev Dl(m:fx):fM:=⟨1,m.version,m.zp,m.end_,m.slot,m.listen,0,⟨0,0,0,0,0,0⟩⟩
def Cp(w:Wor)(m:fx)(k pc:Int):oo:=match w.counts[m.zm.toNat]? with
 |none=>none
 |some r0=>match r0[k.toNat]? with
  |none=>none
  |some x=>some ({w with counts:=w.counts.set m.zm.toNat (r0.set k.toNat (IntKind.u64.wrap (x+1)))},{m with pc:=pc},fI m 3 10 k)
def oJ(w:Wor)(m:fx)(f:fO->Wor×fx×fF):oo:=if m.listen<0 then none else (w.zc[m.listen.toNat]?).map f
def AQ(w:Wor)(m:fx)(v:fC)(g:Gr)(e:En):oo:=
 if m.pc<3 then CF w m
 else if m.pc=3 then some (w,if zZ w.zc m.op.listen<0 then kB (AK w m) 2 else AK w m,FD (fI m 1 3 w.current))
 else if m.pc=4 then oJ w m λx=>({w with zc:=w.zc.set m.listen.toNat (BD x)},{m with pc:=5},fI m 3 5 (IntKind.i64.wrap (x.zo+1)))
 else if m.pc=5 then oJ w m λl=>(w,if l.drain then kB m 5 else yu m v,if l.drain then {fI m 1 4 1 with jo:=true} else fI m 1 4 0)
 else if m.pc=6 then (v.snap.zj[m.zp.toNat]?).map λc=>(vO w m v g e (IntKind.u64.wrap (g.zC+1)) e.head e.zo,EC m c g.zC,ib m v 3 6 (IntKind.i64.wrap g.zC))
 else if m.pc=7 then some (w,{m with i:=e.zo,pc:=8},ib m v 1 7 e.zo)
 else if m.pc=8 then (g.ends[m.other.toNat]?).map λe2=>(w,{m with end_:=if e2.zo<m.i then m.other else m.end_,pc:=9},ib m v 1 7 e2.zo)
 else if m.pc=9 then some (w,if 0<=zQ e.head/\zQ e.head<e.next.length then {m with word:=e.head,slot:=zQ e.head,pc:=10} else kB {m with word:=e.head} 4,ib m v 1 8 (zQ e.head))
 else if m.pc=10 then (e.next[m.slot.toNat]?).map λx=>(w,{m with link:=x,pc:=11},ib m v 1 9 x)
 else if m.pc=11 then (if e.head=m.word then some (vO w m v g e g.zC (Slp.vq m.word m.link) e.zo,{m with pc:=12},ib m v 4 8 m.slot) else some (w,{m with pc:=9},ib m v 5 8 (zQ e.head)))
 else if m.pc=12 then some (vO w m v g e g.zC e.head (IntKind.i64.wrap (e.zo+1)),{m with answer:=Dl m,pc:=20},ib m v 3 7 (IntKind.i64.wrap (e.zo+1)))
 else if m.pc=20 then Cp w m (wM m.answer.kind) 21
 else if m.pc=21 then Cp w m 0 (if m.answer.kind=1\/m.listen<0 then 23 else 22)
 else if m.pc=22 then oJ w m λx=>({w with zc:=w.zc.set m.listen.toNat (kF x)},{m with pc:=23},fI m 3 5 (IntKind.i64.wrap (x.zo-1)))
 else if m.pc=23 then some (mJ w m.zm.toNat 0,{m with done:=true},{BL m with done:=true,answer:=m.answer})
 else none
def kX(w:Wor)(m:fx)(v:fC)(g:Gr)(e:En):oo:=
 if m.pc=0 then some (w,{m with word:=e.head,pc:=1},ib m v 1 8 (zQ e.head))
 else if m.pc=1 then some (vO w m v g (yw m e) g.zC e.head e.zo,{m with pc:=2},ib m v 2 9 (zQ m.word))
 else if m.pc=2 then (if e.head=m.word then some (vO w m v g e g.zC (Slp.vq m.word m.slot) e.zo,{m with pc:=3},{ib m v 4 8 m.slot with jo:=true}) else some (w,{m with pc:=0},ib m v 5 8 (zQ e.head)))
 else if m.pc=3 then some (vO w m v g e g.zC e.head (IntKind.i64.wrap (e.zo-1)),{m with pc:=4},ib m v 3 7 (IntKind.i64.wrap (e.zo-1)))
 else if m.pc=4 then oJ w m λx=>({w with zc:=w.zc.set m.listen.toNat (kF x)},{m with answer:=Du m,done:=true},HW m x)
 else if m.pc=9 then some (w,{m with answer:=wW 7,done:=true},HT m)
 else none
def Aw(w:Wor)(m:fx):oo:=
 if m.pc=0 then (if nt m.op.config=0 then some ({w with current:=w.zd.length,zd:=w.zd++[nu m.op.config]},BR m w.current w.zd.length,{fI m 6 3 w.zd.length with jo:=true})
  else some (w,{m with done:=true,answer:=oy (nt m.op.config)},{fI m 1 3 w.current with jo:=true,done:=true,answer:=oy (nt m.op.config)}))
 else if m.pc=1 then some (w,{m with zr:=w.zr,pc:=2},fI m 1 1 w.zr)
 else if m.pc=2 then (if yN w m then none else some ({w with zn:=w.zn++[⟨m.version,m.zr,false⟩]},{m with done:=true,answer:=om m},{fI m 2 11 m.version with done:=true,answer:=om m}))
 else none
abbrev DL(p:Int):fM:=⟨10,0,0,0,0,p,0,⟨0,0,0,0,0,0⟩⟩
def AS(w:Wor)(m:fx):oo:=
 if m.pc=0 then (if zZ w.zc m.op.listen<0 then some (w,{m with done:=true,answer:=wW 7},{DO m with done:=true,answer:=wW 7})
  else (w.zc[(zZ w.zc m.op.listen).toNat]?).map λx=>({w with zc:=w.zc.set (zZ w.zc m.op.listen).toNat (Go.Gat.wH x)},{m with listen:=zZ w.zc m.op.listen,done:=true,answer:=DL (zZ w.zc m.op.listen)},{Fh m with done:=true,answer:=DL (zZ w.zc m.op.listen)}))
 else none
def lW(w:Wor)(m:fx):Wor×fx×fF:=match w.zc[m.i.toNat]? with
 |none=>({w with lock:=0},{m with done:=true,answer:=Bh 11 m.answer.n},{fI m 2 14 0 with done:=true,answer:=Bh 11 m.answer.n})
 |some l=>(w,FA m l,Ny m l)
def xt(w:Wor)(m:fx):oo:=
 if m.pc=0 then some (if w.lock=0 then ({w with lock:=1},{m with pc:=1},fI m 4 14 1) else (w,{m with done:=true,answer:=wW 12},{fI m 5 14 1 with done:=true,answer:=wW 12}))
 else if m.pc=1 then some (w,{m with zr:=w.zr,pc:=2,i:=0},fI m 1 1 w.zr)
 else if m.pc=2 then (w.pins[m.i.toNat]?).map λp=>(w,oV w m p,fI m 1 2 p)
 else if m.pc=3 then some (if w.zr=m.zr/\w.zr<1000000000000 then ({w with zr:=IntKind.i64.wrap (w.zr+1)},{im m 4 0 with zr:=IntKind.i64.wrap (w.zr+1)},fI m 4 1 (IntKind.i64.wrap (w.zr+1))) else (w,im m 4 0,fI m 5 1 w.zr))
 else if m.pc=4 then some (match w.zn[m.i.toNat]? with|none=>lW w (im m 8 0)|some r=>(w,Ai m r,fI m 1 11 r.version))
 else if m.pc=5 then (w.zd[m.version.toNat]?).bind λv=>((jf v)[m.k.toNat]?).map λe=>(w,AJ m v e.zo,Fz m v e.zo)
 else if m.pc=6 then (w.zd[m.version.toNat]?).bind λv=>(w.zn[m.i.toNat]?).bind λr=>if r.version=m.version/\r.gone=false then
  some ({w with zd:=w.zd.set m.version.toNat (Bv v),zn:=w.zn.set m.i.toNat (ny r)},BP m,fI m 2 12 m.version) else none
 else if m.pc=8 then some (lW w m)
 else if m.pc=9 then (w.zc[m.i.toNat]?).map λl=>(w,if l.zo=0 then {m with pc:=10} else im m 8 (IntKind.i64.wrap (m.i+1)),fI m 1 5 l.zo)
 else if m.pc=10 then (w.zc[m.i.toNat]?).bind λl=>if l.drain then some ({w with zc:=w.zc.set m.i.toNat (AZ l)},im m 8 (IntKind.i64.wrap (m.i+1)),fI m 2 13 1) else none
 else none
def Ao(w:Wor)(m:fx):oo:=
 if m.pc=0/\m.k<6 then (w.counts[m.i.toNat]?).bind λr=>(r[m.k.toNat]?).map λn=>(w,vL w m n,BB w m n) else none
def oH(w:Wor)(m:fx):oo:=match w.zd[m.version.toNat]? with
 |none=>none
 |some v=>match v.zg[m.zp.toNat]? with
  |none=>none
  |some g=>match g.ends[m.end_.toNat]? with
   |none=>none
   |some e=>if m.op.kind=1 then AQ w m v g e else if m.op.kind=2 then kX w m v g e else if m.op.kind=3 then Aw w m else if m.op.kind=4 then AS w m
    else if m.op.kind=5 then xt w m else if m.op.kind=6 then Ao w m else none
structure il(N:Nat)(w:Wor):Prop where
 lH:w.zd.length<=N
 iB:w.zc.length<=N
 lJ:w.zn.length<=N
 iN:∀v∈w.zd,y6 v.snap/\∀g∈v.zg,u64 g.zC/\∀e∈g.ends,e.ok
 lu:∀l∈w.zc,l.ok
structure iQ(m:fx):Prop where
 listen:i64 m.listen
 word:u64 m.word
 link: -1<=m.link/\m.link<=2147483646
 host:m.op.host.length<4000000000000
 path:m.op.path.length<4000000000000
 d0:i64 m.op.d0
 d1:i64 m.op.d1
 cfg:m.op.kind=3->yp m.op.config
 AH:m.op.kind=6->m.done=false->m.answer=kG
def JL(h:(qh c).1=0):(xK c).1=0/\(je (mI c.zc) c.zc.length).1=0/\(je (lf c.zj) c.zj.length).1=0/\(je (lN c) c.zK.length).1=0:=by
 unfold qh at h;split at h
 .contradiction
 rename_i h1;split at h
 .contradiction
 rename_i h2;split at h
 .contradiction
 rename_i h3;split at h
 .contradiction
 rename_i h4;exact⟨ai h1,Decidable.of_not_not h2,Decidable.of_not_not h3,Decidable.of_not_not h4⟩
def K8{r:np}(hr:c.zK[i]?=some r)(h:lN c i=0):c.zc.any (λx=>x == r.listen)=true/\lF r.host=true/\kT r.path=true/\yr c.zj r.zp=true:=by
 unfold lN at h;rw[hr]at h;dsimp only at h;split at h
 .cases h
 rename_i h1;split at h
 .cases h
 rename_i h2;split at h
 .cases h
 rename_i h3;split at h
 .cases h
 rename_i h4;exact⟨ai h1,ai h2,ai h3,ai h4⟩
def TV{c:fV}(hc:l[i]?=some c)(h:lf l i=0):jS c.name=true:=by
 unfold lf at h;rw[hc]at h;dsimp only at h;split at h
 .cases h
 rename_i h1;simpa using h1
def TQ:jS []=false:=by decide
def UK(h:yO s=true){r:iL}(hr:r∈s.rules):0<=r.zp/\r.zp<s.zj.length:=by
 have h:(qh (lb s)).1=0:=by unfold yO at h;simpa using h
 obtain⟨_,_,h3,h4⟩:=JL h;obtain⟨i,hi⟩:=pV.1 hr;have hi':(lb s).zK[i]?=some (lQ s r):=by unfold lb;simp only[pw,hi,pL]
 have hz:=EF h4 i (px.1 hi').1;obtain⟨_,_,_,hn⟩:=K8 hi' hz;have hn:s.zj.any (λc=>c.name == xy s.zj r.zp)=true:=hn;by_cases hb:0<=r.zp/\r.zp<s.zj.length
 .exact hb
 .unfold xy at hn;rw[pA hb]at hn;obtain⟨c,hc,he⟩:=rJ.1 hn;obtain⟨j,hj⟩:=pV.1 hc;have:=TV hj (EF h3 j (px.1 hj).1);rw[show c.name=[] from ai he,TQ]at this;cases this
def VS(h:yO s=true)(n hh p:fB):0<=(kN s n hh p).1/\∃c,s.zj[(kN s n hh p).1.toNat]?=some c:=by
 have g:=(yn h).zj.1;have zero:∃c,s.zj[(0:Int).toNat]?=some c:=⟨s.zj[0]'an,pq an⟩;unfold kN;split
 .exact⟨sW _,zero⟩
 .split
  .exact⟨sW _,zero⟩
  .split
   .rename_i r hr;have:=UK h (pE hr);exact⟨this.1,s.zj[r.zp.toNat]'an,pq an⟩
   .exact⟨sW _,zero⟩
structure M8(x:fV)(e:En):Prop where
 is:Slp.fS e=true
 len:(e.next.length:Int)=x.yi
structure Aa(v:fC):Prop where
 snap:yO v.snap=true
 len:v.zg.length=v.snap.zj.length
 DP:∀(i:Nat) g x,v.zg[i]?=some g->v.snap.zj[i]?=some x->g.ends.length=x.zM.length/\∀e∈g.ends,M8 x e
def Jc{x:fV}:yC x e=false↔M8 x e:=by
 unfold yC;constructor
 .intro h;simp at h;exact⟨h.1,h.2⟩
 .rintro⟨h1,h2⟩;simp[h1,h2]
def Em:we v=true↔Aa v:=by
 unfold we;simp only[pJ,pY,pG,sy];constructor
 .rintro⟨⟨h1,h2⟩,h3⟩;refine⟨h1,h2,λi g x hg hx=>?_⟩;have:=h3 i (px.1 hg).1;unfold kS at this;rw[hg,hx]at this;simp only[pJ,pY,rE,rk]at this;exact⟨this.1,λe he=>Jc.1 (by simpa using this.2 e he)⟩
 .rintro⟨h1,h2,h3⟩;refine⟨⟨h1,h2⟩,λi hi=>?_⟩;unfold kS;split
  .rename_i g x hg hx;obtain⟨h4,h5⟩:=h3 i g x hg hx;simp only[pJ,pY,rE,rk];exact⟨h4,λe he=>by simp[Jc.2 (h5 e he)]⟩
  .rfl
structure j8(w:Wor):Prop where
 ground:jy w=true
 current:0<=w.current/\w.current<w.zd.length
 zn:Go.Lim.fS w.zn=true
 bad:∀r∈w.zn,yD w r=false
 iP:∀(i:Nat) v,w.zd[i]?=some v->Aa v/\v.qH=yY w.zn i
 iB:∀(i:Nat) l,w.zc[i]?=some l->Go.Gat.fS l=true/\zZ w.zc l.name=i
def qt:j7 w=true↔j8 w:=by
 unfold j7;simp only[pJ,pY,pG,sy,rE,rk];constructor
 .rintro⟨⟨⟨⟨⟨h1,h2⟩,h3⟩,h4⟩,h5⟩,h6⟩;refine⟨h1,h2,h3,λr hr=>by simpa using h4 r hr,λi v hv=>?_,λi l hl=>?_⟩
  .have:=h5 i (px.1 hv).1;unfold oI at this;rw[hv]at this;simp only[pJ,rF]at this;exact⟨Em.1 this.1,this.2⟩
  .have:=h6 i (px.1 hl).1;unfold nU at this;rw[hl]at this;simpa using this
 .rintro⟨h1,h2,h3,h4,h5,h6⟩;refine⟨⟨⟨⟨⟨h1,h2⟩,h3⟩,λr hr=>by simp[h4 r hr]⟩,λi hi=>?_⟩,λi hi=>?_⟩
  .unfold oI;split
   .rename_i v hv;obtain⟨a,b⟩:=h5 i v hv;simp[Em.2 a,b]
   .rfl
  .unfold nU;split
   .rename_i l hl;obtain⟨a,b⟩:=h6 i l hl;simp[a,b]
   .rfl
def Aa.mQ(h:Aa v):v.zg.length<=4/\∀g∈v.zg,g.ends.length<=4/\1<=g.ends.length/\∀e∈g.ends,Slp.fS e=true/\e.next.length<=4/\1<=e.next.length:=by
 have gn:=yn h.snap;refine⟨by have:=gn.zj.2;have:=h.len;omega,λg hg=>?_⟩;obtain⟨i,hi⟩:=pV.1 hg;have ft:=(px.1 hi).1;obtain⟨x,hx⟩:∃x,v.snap.zj[i]?=some x:=⟨_,pq (by have:=h.len;omega)⟩;obtain⟨h1,h2⟩:=h.DP i g x hi hx;have gx:=gn.all x (pE hx);refine⟨by have:=gx.zM.2;omega,by have:=gx.zM.1;omega,λe he=>?_⟩;have ge:=h2 e he;have gs:=gx.yi;exact⟨ge.is,by have:=ge.len;omega,by have:=ge.len;omega⟩
structure Iu(w:Wor):Prop where
 pins:1<=w.pins.length/\w.pins.length<=8
 counts:w.counts.length=w.pins.length/\∀r∈w.counts,r.length=6
 zr:0<=w.zr/\w.zr<=1000000000000
 lock:w.lock=0\/w.lock=1
 AM:∀p∈w.pins,0<=p/\p<=w.zr+1
def j9:jy w=true↔Iu w:=by
 unfold jy yd;simp only[pJ,rZ,pY,pG,rE,rk,rF];constructor
 .rintro⟨⟨⟨⟨⟨⟨⟨h1,h2⟩,h3⟩,⟨h4,h5⟩,h6⟩,h7⟩,h8⟩,h9⟩,h10⟩;exact⟨⟨h1,h2⟩,⟨h3,h4⟩,⟨h7,h8⟩,h9,λp hp=>by have:=h10 p hp;simp[oZ]at this;omega⟩
 .rintro⟨⟨h1,h2⟩,⟨h3,h4⟩,⟨h7,h8⟩,h9,h10⟩;exact⟨⟨⟨⟨⟨⟨⟨h1,h2⟩,h3⟩,⟨h4,an⟩,an⟩,h7⟩,h8⟩,h9⟩,λp hp=>by have:=h10 p hp;simp[oZ];omega⟩
def ns(h:j8 w)(t:il N w)(hN:N<=100000000):z6 w:=by
 have g:=j9.1 h.ground;refine⟨by have:=g.pins;omega,⟨by have:=t.lH;omega,λv hv=>?_⟩,bT,⟨by have:=g.counts.1;have:=g.pins;omega,λr hr=>by have:=g.counts.2 r hr;omega⟩,by have:=t.lJ;omega⟩;obtain⟨i,hi⟩:=pV.1 hv;have f:=(h.iP i v hi).1.mQ;exact⟨an,λg hg=>⟨by have:=(f.2 g hg).1;omega,λe he=>by have:=((f.2 g hg).2.2 e he).2;omega⟩⟩
def mX(h:j8 w)(t:il N w)(hN:N<=100000000):fG w:=by
 have g:=j9.1 h.ground;refine⟨by have:=g.pins;omega,⟨by have:=t.lH;omega,λv hv=>?_⟩,⟨bT,t.lu⟩,⟨by have:=g.counts.1;have:=g.pins;omega,λr hr=>by have:=g.counts.2 r hr;omega⟩,by have:=t.lJ;omega⟩;obtain⟨i,hi⟩:=pV.1 hv;have f:=(h.iP i v hi).1.mQ;have o:=t.iN v hv;exact⟨o.1,an,λg hg=>⟨by have:=(f.2 g hg).1;omega,(o.2 g hg).2⟩⟩
def Bu(h:j8 w)(hv:w.zd[i]?=some v):nF v:=by
 have f:=(h.iP i v hv).1.mQ;exact⟨an,λg hg=>by have:=(f.2 g hg).1;omega⟩
def MA(h:j8 w)(t:il N w)(tm:iQ m)(hv:w.zd[i]?=some v):CK m v:=by
 have g:=(h.iP i v hv).1;have o:=(t.iN v (pE hv)).1;refine⟨⟨o.zc.1,o.rules.1,λr hr=>o.rules.2 r hr⟩,tm.host,tm.path,tm.d0,tm.d1,λ_=>?_⟩;obtain⟨h0,c,hc⟩:=VS g.snap m.op.listen m.op.host m.op.path;exact⟨h0,c,hc,by have:=((yn g.snap).all c (pE hc)).zM.2;omega⟩
def VI(h:j8 w){t:Int}(h0:0<=t)(h1:t<w.pins.length):∃r,w.counts[t.toNat]?=some r/\r.length=6:=by
 have g:=j9.1 h.ground;have ft:t.toNat<w.counts.length:=by have:=g.counts.1;omega
 exact⟨_,pq ft,g.counts.2 _ (rj ft)⟩
theorem vK{α:Type}(l:List α)(i:Nat){x:α}(h:l[i]?=some x):l.set i x=l:=by
 obtain⟨h1,rfl⟩:=px.1 h;exact List.set_getElem_self h1
def TE(hat:ig w m v g e):vO w m v g e g.zC e.head e.zo=w:=by
 unfold vO xL nN vN;rw[vK g.ends _ hat.iM,vK v.zg _ hat.iC,vK w.zd _ hat.at_]
abbrev yy(f:FuncId)(w:Wor)(m:fx)(r:Wor×fx×fF):Prop:=th f [] [Cw w,Cm m] (.fy [Cw r.1,Cm r.2.1,Ce r.2.2]) []
def vp{f:fO->Wor×fx×fF}(h:oJ w m f=some r):0<=m.listen/\∃x,w.zc[m.listen.toNat]?=some x/\r=f x:=by
 unfold oJ at h;split at h
 .cases h
 obtain⟨x,hx,rfl⟩:=rq.1 h;exact⟨an,x,hx,rfl⟩
def DU{k pc:Int}(h:Cp w m k pc=some r):∃r0 x,w.counts[m.zm.toNat]?=some r0/\r0[k.toNat]?=some x/\
  r=({w with counts:=w.counts.set m.zm.toNat (r0.set k.toNat (IntKind.u64.wrap (x+1)))},{m with pc:=pc},fI m 3 10 k):=by
 unfold Cp at h;split at h
 .cases h
 split at h
 .cases h
 rename_i r0 h1 _ x h2;exact⟨r0,x,h1,h2,(rV h).symm⟩
def jW.at_(su:jW w m v g e):ig w m v g e:=⟨⟨⟨su.version.1,su.iz⟩,su.zp.1,su.iC⟩,su.end_.1,su.iM⟩
def S9(n:Int):0<=wM n/\wM n<=5:=by
 unfold wM;split <;> omega
section
variable {N:Nat} {w:Wor} {m:fx} {v:fC} {g:Gr} {e:En} {r:Wor×fx×fF}
def XM(su:jW w m v g e)(hs:zG w m=true)(t:il N w)(tm:iQ m)(hN:N<=100000000)(h3:m.pc<3)(h:CF w m=some r):yy 137 w m r:=by
 have gw:=qt.1 su.world;have sw:=ns gw t hN;have ok:=mX gw t hN;unfold CF at h;split at h
 .rename_i hpc;cases h
  exact D0 an h3 (SO w m sw ok tm.listen hpc hs)
 split at h
 .rename_i hpc;cases h
  exact D0 an h3 (SP w m sw ok tm.listen hpc hs)
 split at h
 .rename_i hpc;cases h
  exact D0 an h3 (SQ w m sw ok tm.listen hpc hs)
 .cases h
def QI(su:jW w m v g e)(hs:zG w m=true)(t:il N w)(tm:iQ m)(hN:N<=100000000)(h:AQ w m v g e=some r):yy 137 w m r:=by
 have gw:=qt.1 su.world;have sw:=ns gw t hN;have ok:=mX gw t hN;have hl:=tm.listen;have at_:=su.at_;have gv:=(gw.iP _ v su.iz).1;have oe:=(t.iN v (pE su.iz)).2 g (pE su.iC);have okE:=oe.2 e (pE su.iM)
 have hne:e.next≠[]:=by
  intro h0;have:=su.slot;rw[h0]at this;exact dL
 unfold AQ at h;by_cases h3:m.pc<3
 .rw[pD h3]at h;exact XM su hs t tm hN h3 h
 rw[pA h3]at h;by_cases p:m.pc=3
 .rw[pD p]at h;cases h
  exact VV sw ok hl p hs (NU w m bT)
 rw[pA p]at h
 clear p
 by_cases p:m.pc=4
 .rw[pD p]at h;obtain⟨l0,x,hx,rfl⟩:=vp h;exact VW sw ok hl p hs l0 ah (QD w m x l0 hx)
 rw[pA p]at h
 clear p
 by_cases p:m.pc=5
 .rw[pD p]at h;obtain⟨l0,x,hx,rfl⟩:=vp h;exact Vq sw ok hl p hs l0 (Og w m v at_.tomK (MA gw t tm su.iz) l0 hx)
 rw[pA p]at h
 clear p
 by_cases p:m.pc=6
 .rw[pD p]at h;obtain⟨c,hc,rfl⟩:=rq.1 h;exact Vr sw ok hl p hs at_ hne (P2 w m v g e c at_.ln hc oe.1 bU)
 rw[pA p]at h
 clear p
 by_cases p:m.pc=7
 .rw[pD p]at h;cases h
  exact Vs sw ok hl p hs (NT w m v g e at_)
 rw[pA p]at h
 clear p
 by_cases p:m.pc=8
 .rw[pD p]at h;obtain⟨e2,he2,rfl⟩:=rq.1 h;exact Vt sw ok hl p hs (Od w m v g e2 at_.toCI su.other.1 he2)
 rw[pA p]at h
 clear p
 by_cases p:m.pc=9
 .rw[pD p]at h;by_cases q:0<=zQ e.head/\zQ e.head<e.next.length
  .rw[pD q]at h;cases h
   exact Lq sw ok hl p hs (Om w m v g e at_ okE.1 q)
  .rw[pA q]at h;cases h
   exact Lq sw ok hl p hs (Oa w m v g e at_ okE.1 q)
 rw[pA p]at h
 clear p
 by_cases p:m.pc=10
 .rw[pD p]at h;obtain⟨x,hx,rfl⟩:=rq.1 h;exact T6 sw ok hl p hs (On w m v g e at_ su.slot.1 hx)
 rw[pA p]at h
 clear p
 by_cases p:m.pc=11
 .rw[pD p]at h;by_cases q:e.head=m.word
  .rw[pD q]at h;cases h
   exact KL sw ok hl p hs at_ hne (N2 w m v g e at_.ln tm.word tm.link.1 tm.link.2 q)
  .rw[pA q]at h;cases h
   have:=KL sw ok hl p hs at_ hne (Ol w m v g e at_.ln tm.word tm.link.1 tm.link.2 okE.1 q)
   rwa [TE at_]at this
 rw[pA p]at h
 clear p
 by_cases p:m.pc=12
 .rw[pD p]at h;cases h
  exact T7 sw ok hl p hs at_ hne (PY w m v g e at_.ln)
 rw[pA p]at h
 clear p
 by_cases p:m.pc=20
 .rw[pD p]at h;obtain⟨r0,x,hr,hx,rfl⟩:=DU h;exact T8 sw ok hl p hs su.zm.1 hr bV ah (Oe w m r0 x _ V su.zm.1 hr hx)
 rw[pA p]at h
 clear p
 by_cases p:m.pc=21
 .rw[pD p]at h;obtain⟨r0,x,hr,hx,rfl⟩:=DU h;exact T9 sw ok hl p hs su.zm.1 hr bV ah (Ou w m r0 x su.zm.1 hr hx)
 rw[pA p]at h
 clear p
 by_cases p:m.pc=22
 .rw[pD p]at h;obtain⟨l0,x,hx,rfl⟩:=vp h;exact Ua sw ok hl p hs l0 ah (QM w m x l0 hx)
 rw[pA p]at h
 clear p
 by_cases p:m.pc=23
 .rw[pD p]at h;cases h
  exact Ub sw ok hl p hs (Sf w m sw ok hl hs)
 rw[pA p]at h;cases h
def QF(su:jW w m v g e)(hs:zG w m=true)(t:il N w)(tm:iQ m)(hN:N<=100000000)(h:kX w m v g e=some r):yy 138 w m r:=by
 have gw:=qt.1 su.world;have sw:=ns gw t hN;have ok:=mX gw t hN;have hl:=tm.listen;have at_:=su.at_;have gv:=(gw.iP _ v su.iz).1;have oe:=(t.iN v (pE su.iz)).2 g (pE su.iC);have okE:=oe.2 e (pE su.iM);have ln:=((gv.mQ.2 g (pE su.iC)).2.2 e (pE su.iM)).2
 have hne:e.next≠[]:=by
  intro h0;rw[h0]at ln;simp at ln
 have sl:=su.slot;unfold kX at h;by_cases p:m.pc=0
 .rw[pD p]at h;cases h
  exact R0 w m v g e sw ok hl p hs at_ tm.word okE.1
 rw[pA p]at h
 clear p
 by_cases p:m.pc=1
 .rw[pD p]at h;cases h
  exact R2 w m v g e sw ok hl p hs at_ hne tm.word okE.1 sl.1 an V V V
 rw[pA p]at h
 clear p
 by_cases p:m.pc=2
 .rw[pD p]at h;by_cases q:e.head=m.word
  .rw[pD q]at h;cases h
   exact R3 w m v g e sw ok hl p hs at_ hne tm.word okE.1 q an an V V V
  .rw[pA q]at h;cases h
   exact PW w m v g e sw ok hl p hs at_ tm.word okE.1 q
 rw[pA p]at h
 clear p
 by_cases p:m.pc=3
 .rw[pD p]at h;cases h
  exact R4 w m v g e sw ok hl p hs at_ hne tm.word okE.1 V V V
 rw[pA p]at h
 clear p
 by_cases p:m.pc=4
 .rw[pD p]at h;obtain⟨l0,x,hx,rfl⟩:=vp h;exact R5 w m v g e x sw ok hl p hs at_ tm.word okE.1 l0 hx
 rw[pA p]at h
 clear p
 by_cases p:m.pc=9
 .rw[pD p]at h;cases h
  exact R6 w m v g e sw ok hl p hs at_ tm.word okE.1
 rw[pA p]at h;cases h
end
section
variable {N:Nat} {w:Wor} {m:fx} {v:fC} {g:Gr} {e:En} {r:Wor×fx×fF}
def Uh{l:List fB}{s:fB}(h:l.any (λx=>x == s)=true):xO l (jI l s)=s:=by
 unfold jI;cases hf:l.findIdx? (λx=>x == s) with
 |none=>
  rw[pX]at hf;obtain⟨x,hx,he⟩:=rJ.1 h;rw[hf x hx]at he;cases he
 |some i=>
  obtain⟨h1,h2,_⟩:=pT.1 hf;show xO l ((i:Nat):Int)=s;unfold xO;rw[pD ⟨an,ai h1⟩];simp only[uf,pq h1,rO];simpa using h2
def Ug{s:fB}(h:yr l s=true):xy l (lj l s)=s:=by
 unfold yr at h;unfold lj;cases hf:l.findIdx? (λx=>x.name == s) with
 |none=>
  rw[pX]at hf;obtain⟨x,hx,he⟩:=rJ.1 h;rw[hf x hx]at he;cases he
 |some i=>
  obtain⟨h1,h2,_⟩:=pT.1 hf;show xy l ((i:Nat):Int)=s;unfold xy;rw[pD ⟨an,ai h1⟩];simp only[uf,pq h1,pL,rO];simpa using h2
def Ux(h:(qh c).1=0):lb (qB c).1=c:=by
 obtain⟨_,_,_,h4⟩:=JL h;unfold qB;rw[pA an];obtain⟨ls,rs,cs⟩:=c;unfold lb;simp only[sJ,fZ.mk.injEq,true_and,and_true];refine rL λi=>?_
 rw[pw];cases hi:rs[i]? with
 |none=>rfl
 |some r=>
  obtain⟨a,_,_,b⟩:=K8 (c:=⟨ls,rs,cs⟩) hi (EF h4 i (px.1 hi).1);simp only[pL,Function.comp,rh];unfold lQ kV;dsimp only;rw[Uh a,Ug b]
def F6(h:(qh c).1=0):yO (qB c).1=true:=by
 unfold yO;rw[Ux h,h]
 rfl
def wi(c:fZ):(qB c).2.1=(qh c).1:=by
 unfold qB;split
 .rfl
 .rename_i h;simpa using (Decidable.of_not_not h).symm
def kL(c:fZ):nt c=(qh c).1:=by
 unfold nt;rw[wi];split
 .rfl
 .rename_i h;have h:(qh c).1=0:=Decidable.of_not_not h;unfold qf;rw[pD (F6 h),h]
def UQ(su:jW w m v g e)(hs:zG w m=true)(t:il N w)(tm:iQ m)(hN:N<=100000000)(hk:m.op.kind=3)(h:Aw w m=some r):yy 139 w m r:=by
 have gw:=qt.1 su.world;have sw:=ns gw t hN;have ok:=mX gw t hN;have hl:=tm.listen;unfold Aw at h;by_cases p:m.pc=0
 .rw[pD p]at h;by_cases q:nt m.op.config=0
  .rw[pD q]at h;cases h
   exact QV w m sw ok hl p hs (FH (tm.cfg hk) (by rw[<-kL];exact q)) q
  .rw[pA q]at h;cases h
   exact O9 w m _ sw ok hl p hs (tm.cfg hk) (by rw[wi,kL]) q
 rw[pA p]at h
 clear p
 by_cases p:m.pc=1
 .rw[pD p]at h;cases h
  exact QW w m sw ok hl p hs
 rw[pA p]at h
 clear p
 by_cases p:m.pc=2
 .rw[pD p]at h;cases q:yN w m
  .rw[q]at h;cases h
   cases hx:w.zn with
   |nil=>have:=P0 w m sw ok hl p hs q hx;rwa [hx]at this
   |cons x l=>have:=QX w m x l sw ok hl p hs q hx;rwa [hx]at this
  .rw[q]at h;cases h
 rw[pA p]at h;cases h
def RV(su:jW w m v g e)(hs:zG w m=true)(t:il N w)(tm:iQ m)(hN:N<=100000000)(h:AS w m=some r):yy 140 w m r:=by
 have gw:=qt.1 su.world;have sw:=ns gw t hN;have ok:=mX gw t hN;have hl:=tm.listen;unfold AS at h;by_cases p:m.pc=0
 .rw[pD p]at h;by_cases q:zZ w.zc m.op.listen<0
  .rw[pD q]at h;cases h
   exact OE w m sw ok hl p hs q
  .rw[pA q]at h;obtain⟨x,hx,rfl⟩:=rq.1 h;exact Ov w m x sw ok hl p hs an hx
 rw[pA p]at h;cases h
def Tv(su:jW w m v g e)(hs:zG w m=true)(t:il N w)(tm:iQ m)(hN:N<=100000000)(hk:m.op.kind=6)(h:Ao w m=some r):yy 142 w m r:=by
 have gw:=qt.1 su.world;have sw:=ns gw t hN;have ok:=mX gw t hN;unfold Ao at h;split at h
 rotate_left
 .cases h
 rename_i p;obtain⟨rw_,h1,h2⟩:=r3.1 h;obtain⟨n,h3,rfl⟩:=rq.1 h2;exact QT w m rw_ n sw ok tm.listen p.1 hs su.done ⟨su.i,h1,su.k,p.2,h3⟩ (tm.AH hk su.done)
def B4(gw:j8 w){x:fK}(hx:w.zn[i]?=some x):0<=x.at_/\x.at_<=w.zr/\0<=x.version/\x.version<w.zd.length/\x.version≠w.current:=by
 have h1:=gw.bad x (pE hx);have h2:=pC (show decide (∀i,(h:i<w.zn.length)->Go.Lim.iG w.zn i w.zn[i]=true)=true from gw.zn) i (px.1 hx).1;rw[(px.1 hx).2]at h2;unfold yD at h1;unfold Go.Lim.iG at h2;simp at h1 h2;omega
def LX(h0:0<=m.i):th 190 [oW w,oM m] [.agg tg] (Ce (lW w m).2.2) [⟨1,38,8,[xc (lW w m).1],0⟩,⟨1,64,44,[vX (lW w m).2.1],0⟩]:=by
 unfold lW;cases hx:w.zc[m.i.toNat]? with
 |none=>exact NY w m (by have:=rT.1 hx;omega)
 |some l=>exact N9 w m l h0 hx
def PQ(su:jW w m v g e)(hs:zG w m=true)(t:il N w)(tm:iQ m)(hN:N<=100000000)(h:xt w m=some r):yy 141 w m r:=by
 have gw:=qt.1 su.world;have sw:=ns gw t hN;have ok:=mX gw t hN;have hl:=tm.listen;have av:=su.at_.tomK;unfold xt at h;by_cases p:m.pc=0
 .rw[pD p]at h;by_cases q:w.lock=0
  .rw[pD q]at h;cases h
   (exact jE sw ok hl hs (xu w m an) 0 _ V (λ_ _ _ _ _ _ _ _ _ _=>by rw[p];rfl) V (Pj w m q))
  .rw[pA q]at h;cases h
   (exact jE sw ok hl hs (xu w m an) 0 _ V (λ_ _ _ _ _ _ _ _ _ _=>by rw[p];rfl) V (Qq w m q))
 rw[pA p]at h
 clear p
 by_cases p:m.pc=1
 .rw[pD p]at h;cases h
  (exact jE sw ok hl hs (xu w m an) 1 _ V (λ_ _ _ _ _ _ _ _ _ _=>by rw[p];rfl) V (Go.Wor.Oh w m))
 rw[pA p]at h
 clear p
 by_cases p:m.pc=2
 .rw[pD p]at h;obtain⟨x,hx,rfl⟩:=rq.1 h;have ft:=(px.1 hx).1;have si:=su.i;exact jE sw ok hl hs (Tg w m p an) 2 _ V (λ_ _ _ _ _ _ _ _ _ _=>by rw[p];rfl) V (Ph w m x su.i hx)
 rw[pA p]at h
 clear p
 by_cases p:m.pc=3
 .rw[pD p]at h;by_cases q:w.zr=m.zr/\w.zr<1000000000000
  .rw[pD q]at h;cases h
   (exact jE sw ok hl hs (xu w m an) 3 _ V (λ_ _ _ _ _ _ _ _ _ _=>by rw[p];rfl) V (NV w m q.1 q.2))
  .rw[pA q]at h;cases h
   (exact jE sw ok hl hs (xu w m an) 3 _ V (λ_ _ _ _ _ _ _ _ _ _=>by rw[p];rfl) V (N1 w m q))
 rw[pA p]at h
 clear p
 by_cases p:m.pc=4
 .rw[pD p]at h;cases hx:w.zn[m.i.toNat]? with
  |none=>
   rw[hx]at h;cases h
   (exact jE sw ok hl hs (xu w m an) 4 _ V (λ_ _ _ _ _ _ _ _ _ _=>by rw[p];rfl) V (NZ (by have:=rT.1 hx;have:=su.i;omega) (LX (m:=im m 8 0) (sW _))))
  |some x=>
   rw[hx]at h;cases h
   have la:=B4 gw hx;have ge:=(j9.1 gw.ground).zr
   (exact jE sw ok hl hs (xu w m an) 4 _ V (λ_ _ _ _ _ _ _ _ _ _=>by rw[p];rfl) V (Oi w m x ⟨an,an⟩ su.i hx))
 rw[pA p]at h
 clear p
 by_cases p:m.pc=5
 .rw[pD p]at h;obtain⟨v',hv',h⟩:=r3.1 h;obtain⟨x,hx,rfl⟩:=rq.1 h;have ft:=(px.1 hx).1;have sk:=su.k;exact jE sw ok hl hs (Th w m v' (Bu gw hv') p ⟨su.version.1,hv'⟩ an) 5 _ V (λ_ _ _ _ _ _ _ _ _ _=>by rw[p];rfl) V (N8 w m v' x (Bu gw hv') ⟨su.version.1,hv'⟩ su.k hx)
 rw[pA p]at h
 clear p
 by_cases p:m.pc=6
 .rw[pD p]at h;obtain⟨v',hv',h⟩:=r3.1 h;obtain⟨x,hx,h⟩:=r3.1 h;split at h
  rotate_left
  .cases h
  rename_i q;cases h
  exact PS sw ok hl hs (Ti w m x p su.i hx q.1 q.2) 6 _ V (λ_ _ _ _ _ _ _ _ _ _=>by rw[p];rfl) V (by rintro h0;rw[h0]at hv';simp at hv') (by rintro h0;rw[h0]at hx;simp at hx) ah ah (DZ w m v' x ⟨su.version.1,hv'⟩ su.i hx)
 rw[pA p]at h
 clear p
 by_cases p:m.pc=8
 .rw[pD p]at h;cases h
  (exact jE sw ok hl hs (xu w m an) 7 _ V (λ_ _ _ _ _ _ _ _ _ _=>by rw[p];rfl) V (LX su.i))
 rw[pA p]at h
 clear p
 by_cases p:m.pc=9
 .rw[pD p]at h;obtain⟨x,hx,rfl⟩:=rq.1 h;have ft:=(px.1 hx).1;have si:=su.i;exact jE sw ok hl hs (Tj w m p an) 8 _ V (λ_ _ _ _ _ _ _ _ _ _=>by rw[p];rfl) V (Oc w m x su.i hx)
 rw[pA p]at h
 clear p
 by_cases p:m.pc=10
 .rw[pD p]at h;obtain⟨x,hx,h⟩:=r3.1 h;split at h
  rotate_left
  .cases h
  rename_i q;cases h
  exact PU sw ok hl hs (Qz w m x p su.i hx q) 9 _ V (λ_ _ _ _ _ _ _ _ _ _=>by rw[p];rfl) V (by rintro h0;rw[h0]at hx;simp at hx) ah (Tt w m x su.i hx)
 rw[pA p]at h;cases h
end
end Go.Wor
namespace Go.Wor
open Go.Ab Go.Proofs Tryz Go.Gat Go.Nam Go.Hos Go.Con Go.Sna Go.Pla
open Go.Hy hiding encI
abbrev L6(w:Wor)(m:fx)(r:Wor×fx×fF):Prop:=th 42 [] [Sw w,Sm m] (Sr r.1 r.2.1 r.2.2) []
def SR{N:Nat}{w:Wor}{m:fx}{r:Wor×fx×fF}(hs:zG w m=true)(t:il N w)(tm:iQ m)(hN:N<=100000000)(h:oH w m=some r):L6 w m r:=by
 obtain⟨v,g,e,su⟩:=kl hs;unfold oH at h;rw[su.iz]at h;dsimp only at h;rw[su.iC]at h;dsimp only at h;rw[su.iM]at h;dsimp only at h;by_cases k:m.op.kind=1
 .rw[pD k]at h;exact JA k (QI su hs t tm hN h)
 rw[pA k]at h
 clear k
 by_cases k:m.op.kind=2
 .rw[pD k]at h;exact FU k (QF su hs t tm hN h)
 rw[pA k]at h
 clear k
 by_cases k:m.op.kind=3
 .rw[pD k]at h;exact FV k (UQ su hs t tm hN k h)
 rw[pA k]at h
 clear k
 by_cases k:m.op.kind=4
 .rw[pD k]at h;exact JB k (RV su hs t tm hN h)
 rw[pA k]at h
 clear k
 by_cases k:m.op.kind=5
 .rw[pD k]at h;exact FW k (PQ su hs t tm hN h)
 rw[pA k]at h
 clear k
 by_cases k:m.op.kind=6
 .rw[pD k]at h;exact FX k (Tv su hs t tm hN k h)
 rw[pA k]at h;cases h
end Go.Wor
