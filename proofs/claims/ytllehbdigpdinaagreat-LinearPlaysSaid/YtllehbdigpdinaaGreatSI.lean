import Derived.Test.YtllehbdigpdinaaGreatSY
import Derived.Test.YtllehbdigpdinaaGreatSG
import Derived.Test.YtllehbdigpdinaaGreatSH
import Derived.Test.YtllehbdigpdinaaGreatSZ
set_option linter.all false
set_option maxRecDepth 100000
set_option maxHeartbeats 4000000
namespace Go.Wor
open Go.Ab Go.Proofs Tryz Go.Hy Go.Gat Go.Nam Go.Hos Go.Con Go.Sna
def RY(w:Wor)(m:eR)(v:fc)(g:Gr)(e:En)(sw:q8 w)(ok:fY w)(hl:i64 m.listen)(hpc:m.pc=2)(hs:zY w m=true)(hat:fS w m v g e)(hw:u64 m.word)(hh:u64 e.head)(hne:e.head≠m.word):
  tn 134 [] [Cw w,Cm m] (.fb [Cw w,Cm {m with pc:=0},Ce (ib m v 5 8 (e.head%4294967296-1))]) []:=by
 have a0:=hat.v0;have a1:=hat.tooq.row;have b0:=hat.g0;have b1:(v.zq.map zK)[m.zj.toNat]?=some (zK g):=by rw[gj,hat.fE];rfl
 have c0:=hat.e0;have c1:(g.ends.map zD)[m.end_.toNat]?=some (zD e):=by rw[gj,hat.fL];rfl
 refine ab func134 ?_;(repeat (first|refine uA ?_|refine uB ?_))
 refine ah (zO w m ok hl) ?_;refine⟨λ_=>dd ?_,λh=>absurd ((hs).symm.trans h:true=false) ar⟩;(repeat (first|refine uA ?_|refine uB ?_))
 refine tc ?_
 refine ah (qw w sw) ?_;refine uE ?_;(refine⟨a0,_,a1,dd ?_⟩)
 (refine⟨b0,_,b1,dd ?_⟩)
 (refine⟨c0,_,c1,dd ?_⟩)
 refine ah (Slp.qI m.word hw) ?_;refine .inr ⟨⟨[0,1,5,6,7],[0,1],true⟩,au,λ_=>O,_,uH ?_,λt2 H2 h=>h⟩;refine⟨_,ai [] (Slp.qI e.head hh),uH ?_⟩;refine⟨_,ai [] (vb w m v hat.tooq 1 8 (e.head%4294967296-1)),uH ?_⟩;(refine⟨uH ?_,trivial⟩);refine hZ ?_
 (refine⟨uH ?_,trivial⟩);refine hZ ?_
 (refine⟨_,_,.refl _,uH ?_⟩)
 (repeat (first|refine uA ?_|refine uB ?_))
 refine uE ?_;refine⟨λ_=>dd ?_,λh=>absurd h (aq hne)⟩;refine mP.go O (uH ?_);refine .inl ⟨⟨false,[0,1,2],[5,1,6],[]⟩,au,uH ?_⟩;refine hZ ?_
 exact uI
def Q8(w:Wor)(m:eR)(v:fc)(g:Gr)(e:En)(hv:fS w m v g e)(he:u64 e.head)(hi:¬(0<=e.head%4294967296-1/\e.head%4294967296-1<e.next.length)):
  tn 202 [oW w,oM m] [.agg tj] (Ce (ib m v 1 8 (e.head%4294967296-1))) [oW w,oM (ny {m with word:=e.head} 4)]:=by
 have ml:(e.next.map Go.Hy.encI).length=e.next.length:=gp ..;refine aa func202 ?_;refine FR [0,1] (wx w m v g e hv) O O O O O O (dd ?_);refine ah (Slp.qI e.head he) ?_;refine⟨λq1=>?_,λq1=>?_⟩
 ·refine dd ?_;refine tc ?_
  refine af [1] (vX {m with word:=e.head} 4) ?_;refine af [0,1] (wF w (ny {m with word:=e.head} 4) v ⟨hv.v0,hv.at_⟩ 1 8 (e.head%4294967296-1)) ?_;exact cW
 ·refine dd ?_;refine FR [0,1] (wx w {m with word:=e.head} v g e ⟨⟨⟨hv.v0,hv.at_⟩,hv.g0,hv.fE⟩,hv.e0,hv.fL⟩) O O O O O O (dd ?_);rw[ml];refine⟨λq2=>?_,λq2=>?_⟩
  ·refine dd ?_;refine tc ?_
   refine af [1] (vX {m with word:=e.head} 4) ?_;refine af [0,1] (wF w (ny {m with word:=e.head} 4) v ⟨hv.v0,hv.at_⟩ 1 8 (e.head%4294967296-1)) ?_;exact cW
  ·exact absurd ⟨bW,by simp at q2;omega⟩ hi
abbrev ot:=Option (Wor×eR×eV)
def oU(w:Wor)(m:eR):ot:=
 if m.pc=0 then some (w,{m with zo:=w.zo,pc:=1},As m (Ax w.zo))
 else if m.pc=1 then some (oV w m.zf.toNat (IntKind.i64.wrap (m.zo+1)),{m with pc:=2},As m ⟨0,0,2,2,0,false,IntKind.i64.wrap (m.zo+1),false,false,false,mS⟩)
 else if m.pc=2 then some (w,{m with zo:=w.zo,pc:=if w.zo=m.zo then 3 else 1},As m (Ax w.zo))
 else none
abbrev PH(x:fq):fq:={x with zi:=IntKind.i64.wrap (x.zi+1)}
abbrev zA(x:Int):Int:=x%4294967296-1
abbrev wo(m:eR):ff:=⟨1,m.version,m.zj,m.end_,m.slot,m.listen,0,⟨0,0,0,0,0,0⟩⟩
def yU(w:Wor)(m:eR)(k pc:Int):ot:=match w.counts[m.zf.toNat]? with
 |none=>none
 |some r0=>match r0[k.toNat]? with
  |none=>none
  |some x=>some ({w with counts:=w.counts.set m.zf.toNat (r0.set k.toNat (IntKind.u64.wrap (x+1)))},{m with pc:=pc},fx m 3 10 k)
def wi(w:Wor)(m:eR)(f:fq->Wor×eR×eV):ot:=if m.listen<0 then none else (w.zd[m.listen.toNat]?).map f
def zZ(w:Wor)(m:eR)(v:fc)(g:Gr)(e:En):ot:=
 if m.pc<3 then oU w m
 else if m.pc=3 then some (w,if zx w.zd m.op.listen<0 then ny (Cq w m) 2 else Cq w m,KA (fx m 1 3 w.current))
 else if m.pc=4 then wi w m λx=>({w with zd:=w.zd.set m.listen.toNat (PH x)},{m with pc:=5},fx m 3 5 (IntKind.i64.wrap (x.zi+1)))
 else if m.pc=5 then wi w m λl=>(w,if l.drain then ny m 5 else xe m v,if l.drain then {fx m 1 4 1 with zI:=true} else fx m 1 4 0)
 else if m.pc=6 then (v.snap.zk[m.zj.toNat]?).map λc=>(mE w m v g e (IntKind.u64.wrap (g.zt+1)) e.head e.zi,FM m c g.zt,ib m v 3 6 (IntKind.i64.wrap g.zt))
 else if m.pc=7 then some (w,{m with i:=e.zi,pc:=8},ib m v 1 7 e.zi)
 else if m.pc=8 then (g.ends[m.other.toNat]?).map λe2=>(w,{m with end_:=if e2.zi<m.i then m.other else m.end_,pc:=9},ib m v 1 7 e2.zi)
 else if m.pc=9 then some (w,if 0<=zA e.head/\zA e.head<e.next.length then {m with word:=e.head,slot:=zA e.head,pc:=10} else ny {m with word:=e.head} 4,ib m v 1 8 (zA e.head))
 else if m.pc=10 then (e.next[m.slot.toNat]?).map λx=>(w,{m with link:=x,pc:=11},ib m v 1 9 x)
 else if m.pc=11 then (if e.head=m.word then some (mE w m v g e g.zt (Slp.jb m.word m.link) e.zi,{m with pc:=12},ib m v 4 8 m.slot) else some (w,{m with pc:=9},ib m v 5 8 (zA e.head)))
 else if m.pc=12 then some (mE w m v g e g.zt e.head (IntKind.i64.wrap (e.zi+1)),{m with answer:=wo m,pc:=20},ib m v 3 7 (IntKind.i64.wrap (e.zi+1)))
 else if m.pc=20 then yU w m (oN m.answer.kind) 21
 else if m.pc=21 then yU w m 0 (if m.answer.kind=1\/m.listen<0 then 23 else 22)
 else if m.pc=22 then wi w m λx=>({w with zd:=w.zd.set m.listen.toNat (Bw x)},{m with pc:=23},fx m 3 5 (IntKind.i64.wrap (x.zi-1)))
 else if m.pc=23 then some (oV w m.zf.toNat 0,{m with done:=true},{EJ m with done:=true,answer:=m.answer})
 else none
def xa(w:Wor)(m:eR)(v:fc)(g:Gr)(e:En):ot:=
 if m.pc=0 then some (w,{m with word:=e.head,pc:=1},ib m v 1 8 (zA e.head))
 else if m.pc=1 then some (mE w m v g (vD m e) g.zt e.head e.zi,{m with pc:=2},ib m v 2 9 (zA m.word))
 else if m.pc=2 then (if e.head=m.word then some (mE w m v g e g.zt (Slp.jb m.word m.slot) e.zi,{m with pc:=3},{ib m v 4 8 m.slot with zI:=true}) else some (w,{m with pc:=0},ib m v 5 8 (zA e.head)))
 else if m.pc=3 then some (mE w m v g e g.zt e.head (IntKind.i64.wrap (e.zi-1)),{m with pc:=4},ib m v 3 7 (IntKind.i64.wrap (e.zi-1)))
 else if m.pc=4 then wi w m λx=>({w with zd:=w.zd.set m.listen.toNat (Bw x)},{m with answer:=JV m,done:=true},Px m x)
 else if m.pc=9 then some (w,{m with answer:=lH 7,done:=true},PI m)
 else none
def yL(w:Wor)(m:eR):ot:=
 if m.pc=0 then (if nz m.op.config=0 then some ({w with current:=w.ze.length,ze:=w.ze++[yK m.op.config]},mD m w.current w.ze.length,{fx m 6 3 w.ze.length with zI:=true})
  else some (w,{m with done:=true,answer:=oG (nz m.op.config)},{fx m 1 3 w.current with zI:=true,done:=true,answer:=oG (nz m.op.config)}))
 else if m.pc=1 then some (w,{m with zo:=w.zo,pc:=2},fx m 1 1 w.zo)
 else if m.pc=2 then (if wW w m then none else some ({w with zr:=w.zr++[⟨m.version,m.zo,false⟩]},{m with done:=true,answer:=Ao m},{fx m 2 11 m.version with done:=true,answer:=Ao m}))
 else none
abbrev Qa(p:Int):ff:=⟨10,0,0,0,0,p,0,⟨0,0,0,0,0,0⟩⟩
def vz(w:Wor)(m:eR):ot:=
 if m.pc=0 then (if zx w.zd m.op.listen<0 then some (w,{m with done:=true,answer:=lH 7},{GR m with done:=true,answer:=lH 7})
  else (w.zd[(zx w.zd m.op.listen).toNat]?).map λx=>({w with zd:=w.zd.set (zx w.zd m.op.listen).toNat (Go.Gat.yD x)},{m with listen:=zx w.zd m.op.listen,done:=true,answer:=Qa (zx w.zd m.op.listen)},{Kc m with done:=true,answer:=Qa (zx w.zd m.op.listen)}))
 else none
def l8(w:Wor)(m:eR):Wor×eR×eV:=match w.zd[m.i.toNat]? with
 |none=>({w with lock:=0},{m with done:=true,answer:=EF 11 m.answer.n},{fx m 2 14 0 with done:=true,answer:=EF 11 m.answer.n})
 |some l=>(w,BN m l,GC m l)
def j8(w:Wor)(m:eR):ot:=
 if m.pc=0 then some (if w.lock=0 then ({w with lock:=1},{m with pc:=1},fx m 4 14 1) else (w,{m with done:=true,answer:=lH 12},{fx m 5 14 1 with done:=true,answer:=lH 12}))
 else if m.pc=1 then some (w,{m with zo:=w.zo,pc:=2,i:=0},fx m 1 1 w.zo)
 else if m.pc=2 then (w.pins[m.i.toNat]?).map λp=>(w,Az w m p,fx m 1 2 p)
 else if m.pc=3 then some (if w.zo=m.zo/\w.zo<1000000000000 then ({w with zo:=IntKind.i64.wrap (w.zo+1)},{iA m 4 0 with zo:=IntKind.i64.wrap (w.zo+1)},fx m 4 1 (IntKind.i64.wrap (w.zo+1))) else (w,iA m 4 0,fx m 5 1 w.zo))
 else if m.pc=4 then some (match w.zr[m.i.toNat]? with|none=>l8 w (iA m 8 0)|some r=>(w,Ay m r,fx m 1 11 r.version))
 else if m.pc=5 then (w.ze[m.version.toNat]?).bind λv=>((yw v)[m.k.toNat]?).map λe=>(w,Bb m v e.zi,ER m v e.zi)
 else if m.pc=6 then (w.ze[m.version.toNat]?).bind λv=>(w.zr[m.i.toNat]?).bind λr=>if r.version=m.version/\r.gone=false then
  some ({w with ze:=w.ze.set m.version.toNat (AG v),zr:=w.zr.set m.i.toNat (wU r)},Ds m,fx m 2 12 m.version) else none
 else if m.pc=8 then some (l8 w m)
 else if m.pc=9 then (w.zd[m.i.toNat]?).map λl=>(w,if l.zi=0 then {m with pc:=10} else iA m 8 (IntKind.i64.wrap (m.i+1)),fx m 1 5 l.zi)
 else if m.pc=10 then (w.zd[m.i.toNat]?).bind λl=>if l.drain then some ({w with zd:=w.zd.set m.i.toNat (Ep l)},iA m 8 (IntKind.i64.wrap (m.i+1)),fx m 2 13 1) else none
 else none
def yu(w:Wor)(m:eR):ot:=
 if m.pc=0/\m.k<6 then (w.counts[m.i.toNat]?).bind λr=>(r[m.k.toNat]?).map λn=>(w,jo w m n,C7 w m n) else none
def yl(w:Wor)(m:eR):ot:=match w.ze[m.version.toNat]? with
 |none=>none
 |some v=>match v.zq[m.zj.toNat]? with
  |none=>none
  |some g=>match g.ends[m.end_.toNat]? with
   |none=>none
   |some e=>if m.op.kind=1 then zZ w m v g e else if m.op.kind=2 then xa w m v g e else if m.op.kind=3 then yL w m else if m.op.kind=4 then vz w m
    else if m.op.kind=5 then j8 w m else if m.op.kind=6 then yu w m else none
structure my(N:Nat)(w:Wor):Prop where
 mu:w.ze.length<=N
 fi:w.zd.length<=N
 iX:w.zr.length<=N
 iY:∀v∈w.ze,Aa v.snap/\∀g∈v.zq,u64 g.zt/\∀e∈g.ends,e.ok
 mN:∀l∈w.zd,l.ok
structure fT(m:eR):Prop where
 listen:i64 m.listen
 word:u64 m.word
 link: -1<=m.link/\m.link<=2147483646
 host:m.op.host.length<1000000000000000
 path:m.op.path.length<1000000000000000
 d0:i64 m.op.d0
 d1:i64 m.op.d1
 cfg:m.op.kind=3->xZ m.op.config
 mz:m.op.kind=6->m.done=false->m.answer=mS
def Lp{c:fD}(h:(qg c).1=0):(vr c).1=0/\(jV (AU c.zd) c.zd.length).1=0/\(jV (nC c.zk) c.zk.length).1=0/\(jV (nA c) c.zM.length).1=0:=by
 unfold qg at h;split at h
 ·contradiction
 rename_i h1;split at h
 ·contradiction
 rename_i h2;split at h
 ·contradiction
 rename_i h3;split at h
 ·contradiction
 rename_i h4;exact⟨aq h1,Decidable.of_not_not h2,Decidable.of_not_not h3,Decidable.of_not_not h4⟩
def MQ{c:fD}{i:Nat}{r:m9}(hr:c.zM[i]?=some r)(h:nA c i=0):c.zd.any (λx=>x == r.listen)=true/\n6 r.host=true/\nP r.path=true/\kf c.zk r.zj=true:=by
 unfold nA at h;rw[hr]at h;dsimp only at h;split at h
 ·cases h
 rename_i h1;split at h
 ·cases h
 rename_i h2;split at h
 ·cases h
 rename_i h3;split at h
 ·cases h
 rename_i h4;exact⟨aq h1,aq h2,aq h3,aq h4⟩
def Wm{l:List fF}{i:Nat}{c:fF}(hc:l[i]?=some c)(h:nC l i=0):xJ c.name=true:=by
 unfold nC at h;rw[hc]at h;dsimp only at h;split at h
 ·cases h
 rename_i h1;simpa using h1
def Wg:xJ []=false:=by decide
def WS{s:Sna}(h:yY s=true){r:l7}(hr:r∈s.rules):0<=r.zj/\r.zj<s.zk.length:=by
 have h:(qg (lS s)).1=0:=by unfold yY at h;simpa using h
 obtain⟨_,_,h3,h4⟩:=Lp h;obtain⟨i,hi⟩:=gQ.1 hr;have hi':(lS s).zM[i]?=some (Al s r):=by unfold lS;simp only[gj,hi,gF]
 have hz:=Bs h4 i (dY.1 hi').1;obtain⟨_,_,_,hn⟩:=MQ hi' hz;have hn:s.zk.any (λc=>c.name == vR s.zk r.zj)=true:=hn;by_cases hb:0<=r.zj/\r.zj<s.zk.length
 ·exact hb
 ·unfold vR at hn;rw[gf hb]at hn;obtain⟨c,hc,he⟩:=pZ.1 hn;obtain⟨j,hj⟩:=gQ.1 hc;have:=Wm hj (Bs h3 j (dY.1 hj).1);rw[show c.name=[] from aq he,Wg]at this;cases this
def NY{s:Sna}(h:yY s=true)(n hh p:eZ):0<=(jr s n hh p).1/\∃c,s.zk[(jr s n hh p).1.toNat]?=some c:=by
 have g:=(jN h).zk.1;have zero:∃c,s.zk[(0:Int).toNat]?=some c:=⟨s.zk[0]'aw,dZ aw⟩;unfold jr;split
 ·exact⟨gR _,zero⟩
 ·split
  ·exact⟨gR _,zero⟩
  ·split
   ·rename_i r hr;have:=WS h (gh hr);exact⟨this.1,s.zk[r.zj.toNat]'aw,dZ aw⟩
   ·exact⟨gR _,zero⟩
structure Ps(x:fF)(e:En):Prop where
 is:Slp.ft e=true
 len:(e.next.length:Int)=x.xP
structure nM(v:fc):Prop where
 snap:yY v.snap=true
 len:v.zq.length=v.snap.zk.length
 Aw:∀(i:Nat) g x,v.zq[i]?=some g->v.snap.zk[i]?=some x->g.ends.length=x.zJ.length/\∀e∈g.ends,Ps x e
def K7{x:fF}{e:En}:AF x e=false↔Ps x e:=by
 unfold AF;constructor
 ·intro h;simp at h;exact⟨h.1,h.2⟩
 ·rintro⟨h1,h2⟩;simp[h1,h2]
def Og{v:fc}:nB v=true↔nM v:=by
 unfold nB;simp only[gC,gM,gA,rp];constructor
 ·rintro⟨⟨h1,h2⟩,h3⟩;refine⟨h1,h2,λi g x hg hx=>?_⟩;have:=h3 i (dY.1 hg).1;unfold Bv at this;rw[hg,hx]at this;simp only[gC,gM,pJ,pd]at this;exact⟨this.1,λe he=>K7.1 (by simpa using this.2 e he)⟩
 ·rintro⟨h1,h2,h3⟩;refine⟨⟨h1,h2⟩,λi hi=>?_⟩;unfold Bv;split
  ·rename_i g x hg hx;obtain⟨h4,h5⟩:=h3 i g x hg hx;simp only[gC,gM,pJ,pd];exact⟨h4,λe he=>by simp[K7.2 (h5 e he)]⟩
  ·rfl
structure jQ(w:Wor):Prop where
 ground:jX w=true
 current:0<=w.current/\w.current<w.ze.length
 zr:Go.Lim.ft w.zr=true
 bad:∀r∈w.zr,yF w r=false
 fI:∀(i:Nat) v,w.ze[i]?=some v->nM v/\v.qQ=vQ w.zr i
 fi:∀(i:Nat) l,w.zd[i]?=some l->Go.Gat.ft l=true/\zx w.zd l.name=i
def qo{w:Wor}:xQ w=true↔jQ w:=by
 unfold xQ;simp only[gC,gM,gA,rp,pJ,pd];constructor
 ·rintro⟨⟨⟨⟨⟨h1,h2⟩,h3⟩,h4⟩,h5⟩,h6⟩;refine⟨h1,h2,h3,λr hr=>by simpa using h4 r hr,λi v hv=>?_,λi l hl=>?_⟩
  ·have:=h5 i (dY.1 hv).1;unfold oJ at this;rw[hv]at this;simp only[gC,pq]at this;exact⟨Og.1 this.1,this.2⟩
  ·have:=h6 i (dY.1 hl).1;unfold wb at this;rw[hl]at this;simpa using this
 ·rintro⟨h1,h2,h3,h4,h5,h6⟩;refine⟨⟨⟨⟨⟨h1,h2⟩,h3⟩,λr hr=>by simp[h4 r hr]⟩,λi hi=>?_⟩,λi hi=>?_⟩
  ·unfold oJ;split
   ·rename_i v hv;obtain⟨a,b⟩:=h5 i v hv;simp[Og.2 a,b]
   ·rfl
  ·unfold wb;split
   ·rename_i l hl;obtain⟨a,b⟩:=h6 i l hl;simp[a,b]
   ·rfl
def nM.oy{v:fc}(h:nM v):v.zq.length<=4/\∀g∈v.zq,g.ends.length<=4/\1<=g.ends.length/\∀e∈g.ends,Slp.ft e=true/\e.next.length<=4/\1<=e.next.length:=by
 have gn:=jN h.snap;refine⟨by have:=gn.zk.2;have:=h.len;omega,λg hg=>?_⟩;obtain⟨i,hi⟩:=gQ.1 hg;have eU:=(dY.1 hi).1;obtain⟨x,hx⟩:∃x,v.snap.zk[i]?=some x:=⟨_,dZ (by have:=h.len;omega)⟩;obtain⟨h1,h2⟩:=h.Aw i g x hi hx;have gx:=gn.all x (gh hx);refine⟨by have:=gx.zJ.2;omega,by have:=gx.zJ.1;omega,λe he=>?_⟩;have ge:=h2 e he;have gs:=gx.xP;exact⟨ge.is,by have:=ge.len;omega,by have:=ge.len;omega⟩
structure Qg(w:Wor):Prop where
 pins:1<=w.pins.length/\w.pins.length<=8
 counts:w.counts.length=w.pins.length/\∀r∈w.counts,r.length=6
 zo:0<=w.zo/\w.zo<=1000000000000
 lock:w.lock=0\/w.lock=1
 nk:∀p∈w.pins,0<=p/\p<=w.zo+1
def qf{w:Wor}:jX w=true↔Qg w:=by
 unfold jX BT;simp only[gC,p8,gM,gA,pJ,pd,pq];constructor
 ·rintro⟨⟨⟨⟨⟨⟨⟨h1,h2⟩,h3⟩,⟨h4,h5⟩,h6⟩,h7⟩,h8⟩,h9⟩,h10⟩;exact⟨⟨h1,h2⟩,⟨h3,h4⟩,⟨h7,h8⟩,h9,λp hp=>by have:=h10 p hp;simp[o8]at this;omega⟩
 ·rintro⟨⟨h1,h2⟩,⟨h3,h4⟩,⟨h7,h8⟩,h9,h10⟩;exact⟨⟨⟨⟨⟨⟨⟨h1,h2⟩,h3⟩,⟨h4,aw⟩,aw⟩,h7⟩,h8⟩,h9⟩,λp hp=>by have:=h10 p hp;simp[o8];omega⟩
def Cb{N:Nat}{w:Wor}(h:jQ w)(t:my N w)(hN:N<=100000000):q8 w:=by
 have g:=qf.1 h.ground;refine⟨by have:=g.pins;omega,⟨by have:=t.mu;omega,λv hv=>?_⟩,by have:=t.fi;omega,⟨by have:=g.counts.1;have:=g.pins;omega,λr hr=>by have:=g.counts.2 r hr;omega⟩,by have:=t.iX;omega⟩;obtain⟨i,hi⟩:=gQ.1 hv;have f:=(h.fI i v hi).1.oy;exact⟨aw,λg hg=>⟨by have:=(f.2 g hg).1;omega,λe he=>by have:=((f.2 g hg).2.2 e he).2;omega⟩⟩
def BB{N:Nat}{w:Wor}(h:jQ w)(t:my N w)(hN:N<=100000000):fY w:=by
 have g:=qf.1 h.ground;refine⟨by have:=g.pins;omega,⟨by have:=t.mu;omega,λv hv=>?_⟩,⟨by have:=t.fi;omega,t.mN⟩,⟨by have:=g.counts.1;have:=g.pins;omega,λr hr=>by have:=g.counts.2 r hr;omega⟩,by have:=t.iX;omega⟩;obtain⟨i,hi⟩:=gQ.1 hv;have f:=(h.fI i v hi).1.oy;have o:=t.iY v hv;exact⟨o.1,aw,λg hg=>⟨by have:=(f.2 g hg).1;omega,(o.2 g hg).2⟩⟩
def Pb{w:Wor}(h:jQ w){i:Nat}{v:fc}(hv:w.ze[i]?=some v):ED v:=by
 have f:=(h.fI i v hv).1.oy;exact⟨aw,λg hg=>by have:=(f.2 g hg).1;omega⟩
def zxv{N:Nat}{w:Wor}{m:eR}(h:jQ w)(t:my N w)(tm:fT m){i:Nat}{v:fc}(hv:w.ze[i]?=some v):GO m v:=by
 have g:=(h.fI i v hv).1;have o:=(t.iY v (gh hv)).1;refine⟨⟨o.zd.1,o.rules.1,λr hr=>o.rules.2 r hr⟩,tm.host,tm.path,tm.d0,tm.d1,λ_=>?_⟩;obtain⟨h0,c,hc⟩:=NY g.snap m.op.listen m.op.host m.op.path;exact⟨h0,c,hc,by have:=((jN g.snap).all c (gh hc)).zJ.2;omega⟩
def XW{w:Wor}(h:jQ w){t:Int}(h0:0<=t)(h1:t<w.pins.length):∃r,w.counts[t.toNat]?=some r/\r.length=6:=by
 have g:=qf.1 h.ground;have eU:t.toNat<w.counts.length:=by have:=g.counts.1;omega
 exact⟨_,dZ eU,g.counts.2 _ (gW eU)⟩
def yk{α:Type}(l:List α)(i:Nat){x:α}(h:l[i]?=some x):l.set i x=l:=by
 obtain⟨h1,rfl⟩:=dY.1 h;exact u3 h1
def UY{w:Wor}{m:eR}{v:fc}{g:Gr}{e:En}(hat:fS w m v g e):mE w m v g e g.zt e.head e.zi=w:=by
 unfold mE kA Ak qV;rw[yk g.ends _ hat.fL,yk v.zq _ hat.fE,yk w.ze _ hat.at_]
abbrev B2(f:FuncId)(w:Wor)(m:eR)(r:Wor×eR×eV):Prop:=tn f [] [Cw w,Cm m] (.fb [Cw r.1,Cm r.2.1,Ce r.2.2]) []
def Fu{w:Wor}{m:eR}{f:fq->Wor×eR×eV}{r:Wor×eR×eV}(h:wi w m f=some r):0<=m.listen/\∃x,w.zd[m.listen.toNat]?=some x/\r=f x:=by
 unfold wi at h;split at h
 ·cases h
 obtain⟨x,hx,rfl⟩:=gT.1 h;exact⟨aw,x,hx,rfl⟩
def Lq{w:Wor}{m:eR}{k pc:Int}{r:Wor×eR×eV}(h:yU w m k pc=some r):∃r0 x,w.counts[m.zf.toNat]?=some r0/\r0[k.toNat]?=some x/\
  r=({w with counts:=w.counts.set m.zf.toNat (r0.set k.toNat (IntKind.u64.wrap (x+1)))},{m with pc:=pc},fx m 3 10 k):=by
 unfold yU at h;split at h
 ·cases h
 split at h
 ·cases h
 rename_i r0 h1 _ x h2;exact⟨r0,x,h1,h2,(gm h).symm⟩
def qF.at_{w:Wor}{m:eR}{v:fc}{g:Gr}{e:En}(su:qF w m v g e):fS w m v g e:=⟨⟨⟨su.version.1,su.fH⟩,su.zj.1,su.fE⟩,su.end_.1,su.fL⟩
def Ul(n:Int):0<=oN n/\oN n<=5:=by
 unfold oN;split <;> omega
section
variable {N:Nat} {w:Wor} {m:eR} {v:fc} {g:Gr} {e:En} {r:Wor×eR×eV}
def zxi(su:qF w m v g e)(hs:zY w m=true)(t:my N w)(tm:fT m)(hN:N<=100000000)(h3:m.pc<3)(h:oU w m=some r):B2 133 w m r:=by
 have gw:=qo.1 su.world;have sw:=Cb gw t hN;have ok:=BB gw t hN;unfold oU at h;split at h
 ·rename_i hpc;cases h
  exact Hw aw h3 (Vf w m sw ok tm.listen hpc hs)
 split at h
 ·rename_i hpc;cases h
  exact Hw aw h3 (Vg w m sw ok tm.listen hpc hs)
 split at h
 ·rename_i hpc;cases h
  exact Hw aw h3 (Vh w m sw ok tm.listen hpc hs)
 ·cases h
def Td(su:qF w m v g e)(hs:zY w m=true)(t:my N w)(tm:fT m)(hN:N<=100000000)(h:zZ w m v g e=some r):B2 133 w m r:=by
 have gw:=qo.1 su.world;have sw:=Cb gw t hN;have ok:=BB gw t hN;have hl:=tm.listen;have at_:=su.at_;have gv:=(gw.fI _ v su.fH).1;have oe:=(t.iY v (gh su.fH)).2 g (gh su.fE);have okE:=oe.2 e (gh su.fL)
 have hne:e.next≠[]:=by
  intro h0;have:=su.slot;rw[h0]at this;exact de
 unfold zZ at h;by_cases h3:m.pc<3
 ·rw[gk h3]at h;exact zxi su hs t tm hN h3 h
 rw[gf h3]at h;by_cases p:m.pc=3
 ·rw[gk p]at h;cases h
  exact Yf sw ok hl p hs (QQ w m (by have:=t.fi;omega))
 rw[gf p]at h
 clear p
 by_cases p:m.pc=4
 ·rw[gk p]at h;obtain⟨l0,x,hx,rfl⟩:=Fu h;exact XB sw ok hl p hs l0 aj (Sx w m x l0 hx)
 rw[gf p]at h
 clear p
 by_cases p:m.pc=5
 ·rw[gk p]at h;obtain⟨l0,x,hx,rfl⟩:=Fu h;exact XD sw ok hl p hs l0 (Rd w m v at_.tooq (zxv gw t tm su.fH) l0 hx)
 rw[gf p]at h
 clear p
 by_cases p:m.pc=6
 ·rw[gk p]at h;obtain⟨c,hc,rfl⟩:=gT.1 h;exact XE sw ok hl p hs at_ hne (SB w m v g e c at_.ln hc oe.1 (by have:=((jN gv.snap).all c (gh hc)).zJ.2;omega))
 rw[gf p]at h
 clear p
 by_cases p:m.pc=7
 ·rw[gk p]at h;cases h
  exact XF sw ok hl p hs (QU w m v g e at_)
 rw[gf p]at h
 clear p
 by_cases p:m.pc=8
 ·rw[gk p]at h;obtain⟨e2,he2,rfl⟩:=gT.1 h;exact XG sw ok hl p hs (QR w m v g e2 at_.toDq su.other.1 he2)
 rw[gf p]at h
 clear p
 by_cases p:m.pc=9
 ·rw[gk p]at h;by_cases q:0<=zA e.head/\zA e.head<e.next.length
  ·rw[gk q]at h;cases h
   exact N1 sw ok hl p hs (Rj w m v g e at_ okE.1 q)
  ·rw[gf q]at h;cases h
   exact N1 sw ok hl p hs (Q8 w m v g e at_ okE.1 q)
 rw[gf p]at h
 clear p
 by_cases p:m.pc=10
 ·rw[gk p]at h;obtain⟨x,hx,rfl⟩:=gT.1 h;exact WD sw ok hl p hs (Rk w m v g e at_ su.slot.1 hx)
 rw[gf p]at h
 clear p
 by_cases p:m.pc=11
 ·rw[gk p]at h;by_cases q:e.head=m.word
  ·rw[gk q]at h;cases h
   exact MB sw ok hl p hs at_ hne (QY w m v g e at_.ln tm.word tm.link.1 tm.link.2 q)
  ·rw[gf q]at h;cases h
   have:=MB sw ok hl p hs at_ hne (Ra w m v g e at_.ln tm.word tm.link.1 tm.link.2 okE.1 q)
   rwa [UY at_]at this
 rw[gf p]at h
 clear p
 by_cases p:m.pc=12
 ·rw[gk p]at h;cases h
  exact WE sw ok hl p hs at_ hne (Sa w m v g e at_.ln)
 rw[gf p]at h
 clear p
 by_cases p:m.pc=20
 ·rw[gk p]at h;obtain⟨r0,x,hr,hx,rfl⟩:=Lq h;exact WG sw ok hl p hs su.zf.1 hr (by rintro rfl;simp at hx) aj (Rb w m r0 x _ rfl su.zf.1 hr hx)
 rw[gf p]at h
 clear p
 by_cases p:m.pc=21
 ·rw[gk p]at h;obtain⟨r0,x,hr,hx,rfl⟩:=Lq h;exact WH sw ok hl p hs su.zf.1 hr (by rintro rfl;simp at hx) aj (Ro w m r0 x su.zf.1 hr hx)
 rw[gf p]at h
 clear p
 by_cases p:m.pc=22
 ·rw[gk p]at h;obtain⟨l0,x,hx,rfl⟩:=Fu h;exact WI sw ok hl p hs l0 aj (Th w m x l0 hx)
 rw[gf p]at h
 clear p
 by_cases p:m.pc=23
 ·rw[gk p]at h;cases h
  exact WJ sw ok hl p hs (T0 w m sw ok hl hs)
 rw[gf p]at h;cases h
def Sz(su:qF w m v g e)(hs:zY w m=true)(t:my N w)(tm:fT m)(hN:N<=100000000)(h:xa w m v g e=some r):B2 134 w m r:=by
 have gw:=qo.1 su.world;have sw:=Cb gw t hN;have ok:=BB gw t hN;have hl:=tm.listen;have at_:=su.at_;have gv:=(gw.fI _ v su.fH).1;have oe:=(t.iY v (gh su.fH)).2 g (gh su.fE);have okE:=oe.2 e (gh su.fL);have ln:=((gv.oy.2 g (gh su.fE)).2.2 e (gh su.fL)).2
 have hne:e.next≠[]:=by
  intro h0;rw[h0]at ln;simp at ln
 have sl:=su.slot;unfold xa at h;by_cases p:m.pc=0
 ·rw[gk p]at h;cases h
  exact Uw w m v g e sw ok hl p hs at_ tm.word okE.1
 rw[gf p]at h
 clear p
 by_cases p:m.pc=1
 ·rw[gk p]at h;cases h
  exact Ux w m v g e sw ok hl p hs at_ hne tm.word okE.1 sl.1 aw O O O
 rw[gf p]at h
 clear p
 by_cases p:m.pc=2
 ·rw[gk p]at h;by_cases q:e.head=m.word
  ·rw[gk q]at h;cases h
   exact Uy w m v g e sw ok hl p hs at_ hne tm.word okE.1 q aw aw O O O
  ·rw[gf q]at h;cases h
   exact RY w m v g e sw ok hl p hs at_ tm.word okE.1 q
 rw[gf p]at h
 clear p
 by_cases p:m.pc=3
 ·rw[gk p]at h;cases h
  exact Uz w m v g e sw ok hl p hs at_ hne tm.word okE.1 O O O
 rw[gf p]at h
 clear p
 by_cases p:m.pc=4
 ·rw[gk p]at h;obtain⟨l0,x,hx,rfl⟩:=Fu h;exact UA w m v g e x sw ok hl p hs at_ tm.word okE.1 l0 hx
 rw[gf p]at h
 clear p
 by_cases p:m.pc=9
 ·rw[gk p]at h;cases h
  exact UB w m v g e sw ok hl p hs at_ tm.word okE.1
 rw[gf p]at h;cases h
end
section
variable {N:Nat} {w:Wor} {m:eR} {v:fc} {g:Gr} {e:En} {r:Wor×eR×eV}
def V4{l:List eZ}{s:eZ}(h:l.any (λx=>x == s)=true):we l (yz l s)=s:=by
 unfold yz;cases hf:l.findIdx? (λx=>x == s) with
 |none=>
  rw[gP]at hf;obtain⟨x,hx,he⟩:=pZ.1 h;rw[hf x hx]at he;cases he
 |some i=>
  obtain⟨h1,h2,_⟩:=gJ.1 hf;show we l ((i:Nat):Int)=s;unfold we;rw[gk ⟨aw,aq h1⟩];simp only[pK,dZ h1,pL];simpa using h2
def V0{l:List fF}{s:eZ}(h:kf l s=true):vR l (nF l s)=s:=by
 unfold kf at h;unfold nF;cases hf:l.findIdx? (λx=>x.name == s) with
 |none=>
  rw[gP]at hf;obtain⟨x,hx,he⟩:=pZ.1 h;rw[hf x hx]at he;cases he
 |some i=>
  obtain⟨h1,h2,_⟩:=gJ.1 hf;show vR l ((i:Nat):Int)=s;unfold vR;rw[gk ⟨aw,aq h1⟩];simp only[pK,dZ h1,gF,pL];simpa using h2
def Vw{c:fD}(h:(qg c).1=0):lS (zT c).1=c:=by
 obtain⟨_,_,_,h4⟩:=Lp h;unfold zT;rw[gf aw];obtain⟨ls,rs,cs⟩:=c;unfold lS;simp only[rQ,fD.mk.injEq,uv,and_true];refine pI λi=>?_
 rw[gj];cases hi:rs[i]? with
 |none=>rfl
 |some r=>
  obtain⟨a,_,_,b⟩:=MQ (c:=⟨ls,rs,cs⟩) hi (Bs h4 i (dY.1 hi).1);simp only[gF,Function.comp,gS];unfold Al Ah;dsimp only;rw[V4 a,V0 b]
def E8{c:fD}(h:(qg c).1=0):yY (zT c).1=true:=by
 unfold yY;rw[Vw h,h]
 rfl
def vU(c:fD):(zT c).2.1=(qg c).1:=by
 unfold zT;split
 ·rfl
 ·rename_i h;simpa using (Decidable.of_not_not h).symm
def vt(c:fD):nz c=(qg c).1:=by
 unfold nz;rw[vU];split
 ·rfl
 ·rename_i h;have h:(qg c).1=0:=Decidable.of_not_not h;unfold qD;rw[gk (E8 h),h]
def Mu(su:qF w m v g e)(hs:zY w m=true)(t:my N w)(tm:fT m)(hN:N<=100000000)(hk:m.op.kind=3)(h:yL w m=some r):B2 135 w m r:=by
 have gw:=qo.1 su.world;have sw:=Cb gw t hN;have ok:=BB gw t hN;have hl:=tm.listen;unfold yL at h;by_cases p:m.pc=0
 ·rw[gk p]at h;by_cases q:nz m.op.config=0
  ·rw[gk q]at h;cases h
   exact TU w m sw ok hl p hs (Ha (tm.cfg hk) (by rw[<-vt];exact q)) q
  ·rw[gf q]at h;cases h
   exact Rs w m _ sw ok hl p hs (tm.cfg hk) (by rw[vU,vt]) q
 rw[gf p]at h
 clear p
 by_cases p:m.pc=1
 ·rw[gk p]at h;cases h
  exact TV w m sw ok hl p hs
 rw[gf p]at h
 clear p
 by_cases p:m.pc=2
 ·rw[gk p]at h;cases q:wW w m
  ·rw[q]at h;cases h
   cases hx:w.zr with
   |nil=>have:=SQ w m sw ok hl p hs q hx;rwa [hx]at this
   |cons x l=>have:=TW w m x l sw ok hl p hs q hx;rwa [hx]at this
  ·rw[q]at h;cases h
 rw[gf p]at h;cases h
def Tp(su:qF w m v g e)(hs:zY w m=true)(t:my N w)(tm:fT m)(hN:N<=100000000)(h:vz w m=some r):B2 136 w m r:=by
 have gw:=qo.1 su.world;have sw:=Cb gw t hN;have ok:=BB gw t hN;have hl:=tm.listen;unfold vz at h;by_cases p:m.pc=0
 ·rw[gk p]at h;by_cases q:zx w.zd m.op.listen<0
  ·rw[gk q]at h;cases h
   exact RA w m sw ok hl p hs q
  ·rw[gf q]at h;obtain⟨x,hx,rfl⟩:=gT.1 h;exact Rp w m x sw ok hl p hs aw hx
 rw[gf p]at h;cases h
def UQ(su:qF w m v g e)(hs:zY w m=true)(t:my N w)(tm:fT m)(hN:N<=100000000)(hk:m.op.kind=6)(h:yu w m=some r):B2 138 w m r:=by
 have gw:=qo.1 su.world;have sw:=Cb gw t hN;have ok:=BB gw t hN;unfold yu at h;split at h
 rotate_left
 ·cases h
 rename_i p;obtain⟨rw_,h1,h2⟩:=gU.1 h;obtain⟨n,h3,rfl⟩:=gT.1 h2;exact SX w m rw_ n sw ok tm.listen p.1 hs su.done ⟨su.i,h1,su.k,p.2,h3⟩ (tm.mz hk su.done)
def Cz(gw:jQ w){i:Nat}{x:fA}(hx:w.zr[i]?=some x):0<=x.at_/\x.at_<=w.zo/\0<=x.version/\x.version<w.ze.length/\x.version≠w.current:=by
 have h1:=gw.bad x (gh hx);have h2:=gH (show decide (∀i,(h:i<w.zr.length)->Go.Lim.fW w.zr i w.zr[i]=true)=true from gw.zr) i (dY.1 hx).1;rw[(dY.1 hx).2]at h2;unfold yF at h1;unfold Go.Lim.fW at h2;simp at h1 h2;omega
def OL(h0:0<=m.i):tn 180 [oW w,oM m] [.agg tj] (Ce (l8 w m).2.2) [⟨1,38,8,[yt (l8 w m).1],0⟩,⟨1,68,44,[lJ (l8 w m).2.1],0⟩]:=by
 unfold l8;cases hx:w.zd[m.i.toNat]? with
 |none=>exact QN w m (by have:=rh.1 hx;omega)
 |some l=>exact Q7 w m l h0 hx
def Sn(su:qF w m v g e)(hs:zY w m=true)(t:my N w)(tm:fT m)(hN:N<=100000000)(h:j8 w m=some r):B2 137 w m r:=by
 have gw:=qo.1 su.world;have sw:=Cb gw t hN;have ok:=BB gw t hN;have hl:=tm.listen;have av:=su.at_.tooq;unfold j8 at h;by_cases p:m.pc=0
 ·rw[gk p]at h;by_cases q:w.lock=0
  ·rw[gk q]at h;cases h
   (exact jL sw ok hl hs (xv w m aw) 0 _ O (λ_ _ _ _ _ _ _ _ _ _=>by rw[p];rfl) O (RM w m q))
  ·rw[gf q]at h;cases h
   (exact jL sw ok hl hs (xv w m aw) 0 _ O (λ_ _ _ _ _ _ _ _ _ _=>by rw[p];rfl) O (R6 w m q))
 rw[gf p]at h
 clear p
 by_cases p:m.pc=1
 ·rw[gk p]at h;cases h
  (exact jL sw ok hl hs (xv w m aw) 1 _ O (λ_ _ _ _ _ _ _ _ _ _=>by rw[p];rfl) O (Go.Wor.Re w m))
 rw[gf p]at h
 clear p
 by_cases p:m.pc=2
 ·rw[gk p]at h;obtain⟨x,hx,rfl⟩:=gT.1 h;have eU:=(dY.1 hx).1;have si:=su.i;exact jL sw ok hl hs (Ut w m p aw) 2 _ O (λ_ _ _ _ _ _ _ _ _ _=>by rw[p];rfl) O (RL w m x su.i hx)
 rw[gf p]at h
 clear p
 by_cases p:m.pc=3
 ·rw[gk p]at h;by_cases q:w.zo=m.zo/\w.zo<1000000000000
  ·rw[gk q]at h;cases h
   (exact jL sw ok hl hs (xv w m aw) 3 _ O (λ_ _ _ _ _ _ _ _ _ _=>by rw[p];rfl) O (QT w m q.1 q.2))
  ·rw[gf q]at h;cases h
   (exact jL sw ok hl hs (xv w m aw) 3 _ O (λ_ _ _ _ _ _ _ _ _ _=>by rw[p];rfl) O (QX w m q))
 rw[gf p]at h
 clear p
 by_cases p:m.pc=4
 ·rw[gk p]at h;cases hx:w.zr[m.i.toNat]? with
  |none=>
   rw[hx]at h;cases h
   (exact jL sw ok hl hs (xv w m aw) 4 _ O (λ_ _ _ _ _ _ _ _ _ _=>by rw[p];rfl) O (QO (by have:=rh.1 hx;have:=su.i;omega) (OL (m:=iA m 8 0) (gR _))))
  |some x=>
   rw[hx]at h;cases h
   have la:=Cz gw hx;have ge:=(qf.1 gw.ground).zo
   (exact jL sw ok hl hs (xv w m aw) 4 _ O (λ_ _ _ _ _ _ _ _ _ _=>by rw[p];rfl) O (Rf w m x ⟨aw,aw⟩ su.i hx))
 rw[gf p]at h
 clear p
 by_cases p:m.pc=5
 ·rw[gk p]at h;obtain⟨v',hv',h⟩:=gU.1 h;obtain⟨x,hx,rfl⟩:=gT.1 h;have eU:=(dY.1 hx).1;have sk:=su.k;exact jL sw ok hl hs (T2 w m v' (Pb gw hv') p ⟨su.version.1,hv'⟩ aw) 5 _ O (λ_ _ _ _ _ _ _ _ _ _=>by rw[p];rfl) O (Q6 w m v' x (Pb gw hv') ⟨su.version.1,hv'⟩ su.k hx)
 rw[gf p]at h
 clear p
 by_cases p:m.pc=6
 ·rw[gk p]at h;obtain⟨v',hv',h⟩:=gU.1 h;obtain⟨x,hx,h⟩:=gU.1 h;split at h
  rotate_left
  ·cases h
  rename_i q;cases h
  exact Sq sw ok hl hs (T3 w m x p su.i hx q.1 q.2) 6 _ O (λ_ _ _ _ _ _ _ _ _ _=>by rw[p];rfl) O (by rintro h0;rw[h0]at hv';simp at hv') (by rintro h0;rw[h0]at hx;simp at hx) aj aj (Hu w m v' x ⟨su.version.1,hv'⟩ su.i hx)
 rw[gf p]at h
 clear p
 by_cases p:m.pc=8
 ·rw[gk p]at h;cases h
  (exact jL sw ok hl hs (xv w m aw) 7 _ O (λ_ _ _ _ _ _ _ _ _ _=>by rw[p];rfl) O (OL su.i))
 rw[gf p]at h
 clear p
 by_cases p:m.pc=9
 ·rw[gk p]at h;obtain⟨x,hx,rfl⟩:=gT.1 h;have eU:=(dY.1 hx).1;have si:=su.i;exact jL sw ok hl hs (T4 w m p aw) 8 _ O (λ_ _ _ _ _ _ _ _ _ _=>by rw[p];rfl) O (Q9 w m x su.i hx)
 rw[gf p]at h
 clear p
 by_cases p:m.pc=10
 ·rw[gk p]at h;obtain⟨x,hx,h⟩:=gU.1 h;split at h
  rotate_left
  ·cases h
  rename_i q;cases h
  exact Ss sw ok hl hs (SY w m x p su.i hx q) 9 _ O (λ_ _ _ _ _ _ _ _ _ _=>by rw[p];rfl) O (by rintro h0;rw[h0]at hx;simp at hx) aj (UM w m x su.i hx)
 rw[gf p]at h;cases h
end
end Go.Wor
namespace Go.Wor
open Go.Ab Go.Proofs Tryz Go.Gat Go.Nam Go.Hos Go.Con Go.Sna Go.Pla
open Go.Hy hiding encI
abbrev Yi(w:Wor)(m:eR)(r:Wor×eR×eV):Prop:=tn 49 [] [Sw w,Sm m] (Sr r.1 r.2.1 r.2.2) []
def Vi{N:Nat}{w:Wor}{m:eR}{r:Wor×eR×eV}(hs:zY w m=true)(t:my N w)(tm:fT m)(hN:N<=100000000)(h:yl w m=some r):Yi w m r:=by
 obtain⟨v,g,e,su⟩:=ku hs;unfold yl at h;rw[su.fH]at h;dsimp only at h;rw[su.fE]at h;dsimp only at h;rw[su.fL]at h;dsimp only at h;by_cases k:m.op.kind=1
 ·rw[gk k]at h;exact TO k (Td su hs t tm hN h)
 rw[gf k]at h
 clear k
 by_cases k:m.op.kind=2
 ·rw[gk k]at h;exact TP k (Sz su hs t tm hN h)
 rw[gf k]at h
 clear k
 by_cases k:m.op.kind=3
 ·rw[gk k]at h;exact Hl k (Mu su hs t tm hN k h)
 rw[gf k]at h
 clear k
 by_cases k:m.op.kind=4
 ·rw[gk k]at h;exact TQ k (Tp su hs t tm hN h)
 rw[gf k]at h
 clear k
 by_cases k:m.op.kind=5
 ·rw[gk k]at h;exact TR k (Sn su hs t tm hN h)
 rw[gf k]at h
 clear k
 by_cases k:m.op.kind=6
 ·rw[gk k]at h;exact TS k (UQ su hs t tm hN k h)
 rw[gf k]at h;cases h
end Go.Wor
