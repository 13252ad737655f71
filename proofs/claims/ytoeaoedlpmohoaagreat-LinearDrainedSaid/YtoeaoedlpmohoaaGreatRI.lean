import Derived.Test.YtoeaoedlpmohoaaGreatRY
import Derived.Test.YtoeaoedlpmohoaaGreatRG
import Derived.Test.YtoeaoedlpmohoaaGreatRH
import Derived.Test.YtoeaoedlpmohoaaGreatRZ
set_option linter.all false
set_option maxRecDepth 100000
set_option maxHeartbeats 4000000
namespace Go.Wor
open Go.Ab Go.Proofs Tryz Go.Hy Go.Gat Go.Nam Go.Hos Go.Con Go.Sna
def RQ(w:Wor)(m:fq)(v:fB)(g:Gr)(e:En)(sw:jf w)(ok:iC w)(hl:i64 m.listen)(hpc:m.pc=2)(hs:z7 w m=true)(hat:iz w m v g e)(hw:u64 m.word)(hh:u64 e.head)(hne:e.head≠m.word):
  tn 127 [] [Cw w,Cm m] (.fC [Cw w,Cm { m with pc:=0 },Ce (iF m v 5 8 (e.head%4294967296-1))]) []:=by
 have a0:=hat.v0;have a1:=hat.tooA.row;have b0:=hat.g0;have b1:(v.zm.map zF)[m.zg.toNat]?=some (zF g):=by rw[gz,hat.fR];rfl
 have c0:=hat.e0;have c1:(g.ends.map zx)[m.end_.toNat]?=some (zx e):=by rw[gz,hat.ia];rfl
 refine ab func127 ?_;(repeat (first|refine uA ?_|refine uB ?_))
 refine ah (zR w m ok hl) ?_;refine⟨λ_=>dd ?_,λh=>absurd ((hs).symm.trans h:true=false) ar⟩;(repeat (first|refine uA ?_|refine uB ?_))
 refine tc ?_
 refine ah (qE w sw) ?_;refine uE ?_;(refine⟨a0,_,a1,dd ?_⟩)
 (refine⟨b0,_,b1,dd ?_⟩)
 (refine⟨c0,_,c1,dd ?_⟩)
 refine ah (Slp.qQ m.word hw) ?_;refine .inr ⟨⟨[0,1,5,6,7],[0,1],true⟩,au,λ_=>rfl,_,uH ?_,λt2 H2 h=>h⟩;refine⟨_,ai [] (Slp.qQ e.head hh),uH ?_⟩;refine⟨_,ai [] (y7 w m v hat.tooA 1 8 (e.head%4294967296-1)),uH ?_⟩;(refine⟨uH ?_,trivial⟩);refine hZ ?_
 (refine⟨uH ?_,trivial⟩);refine hZ ?_
 (refine⟨_,_,.refl _,uH ?_⟩)
 (repeat (first|refine uA ?_|refine uB ?_))
 refine uE ?_;refine⟨λ_=>dd ?_,λh=>absurd h (aq hne)⟩;refine w7.go rfl (uH ?_);refine .inl ⟨⟨false,[0,1,2],[5,1,6],[]⟩,au,uH ?_⟩;refine hZ ?_
 exact uI
def Qz(w:Wor)(m:fq)(v:fB)(g:Gr)(e:En)(hv:iz w m v g e)(he:u64 e.head)(hi:¬(0<=e.head%4294967296-1/\e.head%4294967296-1<e.next.length)):
  tn 190 [⟨1,38,8,[zU w],0⟩,⟨1,95,44,[zE (m)],0⟩] [.agg tj] (Ce (iF m v 1 8 (e.head%4294967296-1))) [⟨1,38,8,[zU w],0⟩,⟨1,95,44,[zE (nD { m with word:=e.head } 4)],0⟩]:=by
 have ml:(e.next.map Go.Hy.encI).length=e.next.length:=gE ..;refine aa func190 ?_;refine FP [0,1] (wj w m v g e hv) rfl rfl rfl rfl rfl rfl (dd ?_);refine ah (Slp.qQ e.head he) ?_;refine⟨λq1=>?_,λq1=>?_⟩
 ·refine dd ?_;refine tc ?_
  refine af [1] (vR { m with word:=e.head } 4) ?_;refine af [0,1] (wz w (nD { m with word:=e.head } 4) v ⟨hv.v0,hv.at_⟩ 1 8 (e.head%4294967296-1)) ?_;exact cW
 ·refine dd ?_;refine FP [0,1] (wj w { m with word:=e.head } v g e ⟨⟨⟨hv.v0,hv.at_⟩,hv.g0,hv.fR⟩,hv.e0,hv.ia⟩) rfl rfl rfl rfl rfl rfl (dd ?_);rw[ml];refine⟨λq2=>?_,λq2=>?_⟩
  ·refine dd ?_;refine tc ?_
   refine af [1] (vR { m with word:=e.head } 4) ?_;refine af [0,1] (wz w (nD { m with word:=e.head } 4) v ⟨hv.v0,hv.at_⟩ 1 8 (e.head%4294967296-1)) ?_;exact cW
  ·exact absurd ⟨bU,by simp at q2;omega⟩ hi
abbrev oB:=Option (Wor×fq×fx)
def oT(w:Wor)(m:fq):oB:=
 if m.pc=0 then some (w,{ m with zr:=w.zr,pc:=1 },Ai m (At w.zr))
 else if m.pc=1 then some (oU w m.zf.toNat (IntKind.i64.wrap (m.zr+1)),{ m with pc:=2 },Ai m ⟨0,0,2,2,0,false,IntKind.i64.wrap (m.zr+1),false,false,false,m8⟩)
 else if m.pc=2 then some (w,{ m with zr:=w.zr,pc:=if w.zr=m.zr then 3 else 1 },Ai m (At w.zr))
 else none
abbrev OY(x:fQ):fQ:={ x with zi:=IntKind.i64.wrap (x.zi+1) }
abbrev zD(x:Int):Int:=x%4294967296-1
abbrev km(m:fq):fF:=⟨1,m.version,m.zg,m.end_,m.slot,m.listen,0,⟨0,0,0,0,0,0⟩⟩
def vO(w:Wor)(m:fq)(k pc:Int):oB:=match w.counts[m.zf.toNat]? with
 |none=>none
 |some r0=>match r0[k.toNat]? with
  |none=>none
  |some x=>some ({ w with counts:=w.counts.set m.zf.toNat (r0.set k.toNat (IntKind.u64.wrap (x+1))) },{ m with pc:=pc },fV m 3 10 k)
def wa(w:Wor)(m:fq)(f:fQ->Wor×fq×fx):oB:=if m.listen<0 then none else (w.zd[m.listen.toNat]?).map f
def z8(w:Wor)(m:fq)(v:fB)(g:Gr)(e:En):oB:=
 if m.pc<3 then oT w m
 else if m.pc=3 then some (w,if zM w.zd m.op.listen<0 then nD (Cg w m) 2 else Cg w m,Kk (fV m 1 3 w.current))
 else if m.pc=4 then wa w m λx=>({ w with zd:=w.zd.set m.listen.toNat (OY x) },{ m with pc:=5 },fV m 3 5 (IntKind.i64.wrap (x.zi+1)))
 else if m.pc=5 then wa w m λl=>(w,if l.drain then nD m 5 else xi m v,if l.drain then { fV m 1 4 1 with z5:=true } else fV m 1 4 0)
 else if m.pc=6 then (v.snap.zk[m.zg.toNat]?).map λc=>(na w m v g e (IntKind.u64.wrap (g.zt+1)) e.head e.zi,F2 m c g.zt,iF m v 3 6 (IntKind.i64.wrap g.zt))
 else if m.pc=7 then some (w,{ m with i:=e.zi,pc:=8 },iF m v 1 7 e.zi)
 else if m.pc=8 then (g.ends[m.other.toNat]?).map λe2=>(w,{ m with end_:=if e2.zi<m.i then m.other else m.end_,pc:=9 },iF m v 1 7 e2.zi)
 else if m.pc=9 then some (w,if 0<=zD e.head/\zD e.head<e.next.length then { m with word:=e.head,slot:=zD e.head,pc:=10 } else nD { m with word:=e.head } 4,iF m v 1 8 (zD e.head))
 else if m.pc=10 then (e.next[m.slot.toNat]?).map λx=>(w,{ m with link:=x,pc:=11 },iF m v 1 9 x)
 else if m.pc=11 then (if e.head=m.word then some (na w m v g e g.zt (Slp.je m.word m.link) e.zi,{ m with pc:=12 },iF m v 4 8 m.slot) else some (w,{ m with pc:=9 },iF m v 5 8 (zD e.head)))
 else if m.pc=12 then some (na w m v g e g.zt e.head (IntKind.i64.wrap (e.zi+1)),{ m with answer:=km m,pc:=20 },iF m v 3 7 (IntKind.i64.wrap (e.zi+1)))
 else if m.pc=20 then vO w m (oK m.answer.kind) 21
 else if m.pc=21 then vO w m 0 (if m.answer.kind=1\/m.listen<0 then 23 else 22)
 else if m.pc=22 then wa w m λx=>({ w with zd:=w.zd.set m.listen.toNat (Bn x) },{ m with pc:=23 },fV m 3 5 (IntKind.i64.wrap (x.zi-1)))
 else if m.pc=23 then some (oU w m.zf.toNat 0,{ m with done:=true },{ EH m with done:=true,answer:=m.answer })
 else none
def xv(w:Wor)(m:fq)(v:fB)(g:Gr)(e:En):oB:=
 if m.pc=0 then some (w,{ m with word:=e.head,pc:=1 },iF m v 1 8 (zD e.head))
 else if m.pc=1 then some (na w m v g (vy m e) g.zt e.head e.zi,{ m with pc:=2 },iF m v 2 9 (zD m.word))
 else if m.pc=2 then (if e.head=m.word then some (na w m v g e g.zt (Slp.je m.word m.slot) e.zi,{ m with pc:=3 },{ iF m v 4 8 m.slot with z5:=true }) else some (w,{ m with pc:=0 },iF m v 5 8 (zD e.head)))
 else if m.pc=3 then some (na w m v g e g.zt e.head (IntKind.i64.wrap (e.zi-1)),{ m with pc:=4 },iF m v 3 7 (IntKind.i64.wrap (e.zi-1)))
 else if m.pc=4 then wa w m λx=>({ w with zd:=w.zd.set m.listen.toNat (Bn x) },{ m with answer:=JA m,done:=true },OR m x)
 else if m.pc=9 then some (w,{ m with answer:=mq 7,done:=true },OZ m)
 else none
def m9(w:Wor)(m:fq):oB:=
 if m.pc=0 then (if oO m.op.config=0 then some ({ w with current:=w.ze.length,ze:=w.ze++[nZ m.op.config] },Dl m w.current w.ze.length,{ fV m 6 3 w.ze.length with z5:=true })
  else some (w,{ m with done:=true,answer:=Ax (oO m.op.config) },{ fV m 1 3 w.current with z5:=true,done:=true,answer:=Ax (oO m.op.config) }))
 else if m.pc=1 then some (w,{ m with zr:=w.zr,pc:=2 },fV m 1 1 w.zr)
 else if m.pc=2 then (if nV w m then none else some ({ w with zu:=w.zu++[⟨m.version,m.zr,false⟩] },{ m with done:=true,answer:=B8 m },{ fV m 2 11 m.version with done:=true,answer:=B8 m }))
 else none
abbrev Ph(p:Int):fF:=⟨10,0,0,0,0,p,0,⟨0,0,0,0,0,0⟩⟩
def yZ(w:Wor)(m:fq):oB:=
 if m.pc=0 then (if zM w.zd m.op.listen<0 then some (w,{ m with done:=true,answer:=mq 7 },{ GU m with done:=true,answer:=mq 7 })
  else (w.zd[(zM w.zd m.op.listen).toNat]?).map λx=>({ w with zd:=w.zd.set (zM w.zd m.op.listen).toNat (Go.Gat.o5 x) },{ m with listen:=zM w.zd m.op.listen,done:=true,answer:=Ph (zM w.zd m.op.listen) },{ J3 m with done:=true,answer:=Ph (zM w.zd m.op.listen) }))
 else none
def mY(w:Wor)(m:fq):Wor×fq×fx:=match w.zd[m.i.toNat]? with
 |none=>({ w with lock:=0 },{ m with done:=true,answer:=Ez 11 m.answer.n },{ fV m 2 14 0 with done:=true,answer:=Ez 11 m.answer.n })
 |some l=>(w,BE m l,Gz m l)
def xu(w:Wor)(m:fq):oB:=
 if m.pc=0 then some (if w.lock=0 then ({ w with lock:=1 },{ m with pc:=1 },fV m 4 14 1) else (w,{ m with done:=true,answer:=mq 12 },{ fV m 5 14 1 with done:=true,answer:=mq 12 }))
 else if m.pc=1 then some (w,{ m with zr:=w.zr,pc:=2,i:=0 },fV m 1 1 w.zr)
 else if m.pc=2 then (w.pins[m.i.toNat]?).map λp=>(w,Av w m p,fV m 1 2 p)
 else if m.pc=3 then some (if w.zr=m.zr/\w.zr<1000000000000 then ({ w with zr:=IntKind.i64.wrap (w.zr+1) },{ iP m 4 0 with zr:=IntKind.i64.wrap (w.zr+1) },fV m 4 1 (IntKind.i64.wrap (w.zr+1))) else (w,iP m 4 0,fV m 5 1 w.zr))
 else if m.pc=4 then some (match w.zu[m.i.toNat]? with|none=>mY w (iP m 8 0)|some r=>(w,Au m r,fV m 1 11 r.version))
 else if m.pc=5 then (w.ze[m.version.toNat]?).bind λv=>((yv v)[m.k.toNat]?).map λe=>(w,AX m v e.zi,EN m v e.zi)
 else if m.pc=6 then (w.ze[m.version.toNat]?).bind λv=>(w.zu[m.i.toNat]?).bind λr=>if r.version=m.version/\r.gone=false then
  some ({ w with ze:=w.ze.set m.version.toNat (AD v),zu:=w.zu.set m.i.toNat (wN r) },Dh m,fV m 2 12 m.version) else none
 else if m.pc=8 then some (mY w m)
 else if m.pc=9 then (w.zd[m.i.toNat]?).map λl=>(w,if l.zi=0 then { m with pc:=10 } else iP m 8 (IntKind.i64.wrap (m.i+1)),fV m 1 5 l.zi)
 else if m.pc=10 then (w.zd[m.i.toNat]?).bind λl=>if l.drain then some ({ w with zd:=w.zd.set m.i.toNat (El l) },iP m 8 (IntKind.i64.wrap (m.i+1)),fV m 2 13 1) else none
 else none
def yR(w:Wor)(m:fq):oB:=
 if m.pc=0/\m.k<6 then (w.counts[m.i.toNat]?).bind λr=>(r[m.k.toNat]?).map λn=>(w,jv w m n,CU w m n) else none
def x2(w:Wor)(m:fq):oB:=match w.ze[m.version.toNat]? with
 |none=>none
 |some v=>match v.zm[m.zg.toNat]? with
  |none=>none
  |some g=>match g.ends[m.end_.toNat]? with
   |none=>none
   |some e=>if m.op.kind=1 then z8 w m v g e else if m.op.kind=2 then xv w m v g e else if m.op.kind=3 then m9 w m else if m.op.kind=4 then yZ w m
    else if m.op.kind=5 then xu w m else if m.op.kind=6 then yR w m else none
structure mM(N:Nat)(w:Wor):Prop where
 lu:w.ze.length<=N
 fI:w.zd.length<=N
 lj:w.zu.length<=N
 i6:∀v∈w.ze,oZ v.snap/\∀g∈v.zm,u64 g.zt/\∀e∈g.ends,e.ok
 mZ:∀l∈w.zd,l.ok
structure iB(m:fq):Prop where
 listen:i64 m.listen
 word:u64 m.word
 link: -1<=m.link/\m.link<=2147483646
 host:m.op.host.length<1000000000000000
 path:m.op.path.length<1000000000000000
 d0:i64 m.op.d0
 d1:i64 m.op.d1
 cfg:m.op.kind=3->x4 m.op.config
 mB:m.op.kind=6->m.done=false->m.answer=m8
def K6{c:ib}(h:(qO c).1=0):(vm c).1=0/\(jZ (AT c.zd) c.zd.length).1=0/\(jZ (nK c.zk) c.zk.length).1=0/\(jZ (nI c) c.zO.length).1=0:=by
 unfold qO at h;split at h
 ·contradiction
 rename_i h1;split at h
 ·contradiction
 rename_i h2;split at h
 ·contradiction
 rename_i h3;split at h
 ·contradiction
 rename_i h4;exact⟨aq h1,Decidable.of_not_not h2,Decidable.of_not_not h3,Decidable.of_not_not h4⟩
def Mo{c:ib}{i:Nat}{r:nu}(hr:c.zO[i]?=some r)(h:nI c i=0):c.zd.any (λx=>x == r.listen)=true/\n7 r.host=true/\nW r.path=true/\vX c.zk r.zg=true:=by
 unfold nI at h;rw[hr]at h;dsimp only at h;split at h
 ·cases h
 rename_i h1;split at h
 ·cases h
 rename_i h2;split at h
 ·cases h
 rename_i h3;split at h
 ·cases h
 rename_i h4;exact⟨aq h1,aq h2,aq h3,aq h4⟩
def U1{l:List ic}{i:Nat}{c:ic}(hc:l[i]?=some c)(h:nK l i=0):xL c.name=true:=by
 unfold nK at h;rw[hc]at h;dsimp only at h;split at h
 ·cases h
 rename_i h1;simpa using h1
def Wm:xL []=false:=by decide
def Wa{s:Sna}(h:vB s=true){r:mz}(hr:r∈s.rules):0<=r.zg/\r.zg<s.zk.length:=by
 have h:(qO (mj s)).1=0:=by unfold vB at h;simpa using h
 obtain⟨_,_,h3,h4⟩:=K6 h;obtain⟨i,hi⟩:=gW.1 hr;have hi':(mj s).zO[i]?=some (Al s r):=by unfold mj;simp only[gz,hi,gL]
 have hz:=Bg h4 i (gm.1 hi').1;obtain⟨_,_,_,hn⟩:=Mo hi' hz;have hn:s.zk.any (λc=>c.name == vN s.zk r.zg)=true:=hn;by_cases hb:0<=r.zg/\r.zg<s.zk.length
 ·exact hb
 ·unfold vN at hn;rw[gu hb]at hn;obtain⟨c,hc,he⟩:=rB.1 hn;obtain⟨j,hj⟩:=gW.1 hc;have:=U1 hj (Bg h3 j (gm.1 hj).1);rw[show c.name=[] from aq he,Wm]at this;cases this
def Ng{s:Sna}(h:vB s=true)(n hh p:fA):0<=(xg s n hh p).1/\∃c,s.zk[(xg s n hh p).1.toNat]?=some c:=by
 have g:=(j3 h).zk.1;have zero:∃c,s.zk[(0:Int).toNat]?=some c:=⟨s.zk[0]'aw,gp aw⟩;unfold xg;split
 ·exact⟨gY _,zero⟩
 ·split
  ·exact⟨gY _,zero⟩
  ·split
   ·rename_i r hr;have:=Wa h (gA hr);exact⟨this.1,s.zk[r.zg.toNat]'aw,gp aw⟩
   ·exact⟨gY _,zero⟩
structure O4(x:ic)(e:En):Prop where
 is:Slp.fP e=true
 len:(e.next.length:Int)=x.xR
structure nS(v:fB):Prop where
 snap:vB v.snap=true
 len:v.zm.length=v.snap.zk.length
 As:∀(i:Nat) g x,v.zm[i]?=some g->v.snap.zk[i]?=some x->g.ends.length=x.zL.length/\∀e∈g.ends,O4 x e
def KR{x:ic}{e:En}:AB x e=false↔O4 x e:=by
 unfold AB;constructor
 ·intro h;simp at h;exact⟨h.1,h.2⟩
 ·rintro⟨h1,h2⟩;simp[h1,h2]
def Ns{v:fB}:nJ v=true↔nS v:=by
 unfold nJ;simp only[gH,gQ,gI,rC];constructor
 ·rintro⟨⟨h1,h2⟩,h3⟩;refine⟨h1,h2,λi g x hg hx=>?_⟩;have:=h3 i (gm.1 hg).1;unfold Bm at this;rw[hg,hx]at this;simp only[gH,gQ,pO,pD]at this;exact⟨this.1,λe he=>KR.1 (by simpa using this.2 e he)⟩
 ·rintro⟨h1,h2,h3⟩;refine⟨⟨h1,h2⟩,λi hi=>?_⟩;unfold Bm;split
  ·rename_i g x hg hx;obtain⟨h4,h5⟩:=h3 i g x hg hx;simp only[gH,gQ,pO,pD];exact⟨h4,λe he=>by simp[KR.2 (h5 e he)]⟩
  ·rfl
structure jV(w:Wor):Prop where
 ground:j4 w=true
 current:0<=w.current/\w.current<w.ze.length
 zu:Go.Lim.fP w.zu=true
 bad:∀r∈w.zu,yA w r=false
 fX:∀(i:Nat) v,w.ze[i]?=some v->nS v/\v.qt=vM w.zu i
 fI:∀(i:Nat) l,w.zd[i]?=some l->Go.Gat.fP l=true/\zM w.zd l.name=i
def qD{w:Wor}:xS w=true↔jV w:=by
 unfold xS;simp only[gH,gQ,gI,rC,pO,pD];constructor
 ·rintro⟨⟨⟨⟨⟨h1,h2⟩,h3⟩,h4⟩,h5⟩,h6⟩;refine⟨h1,h2,h3,λr hr=>by simpa using h4 r hr,λi v hv=>?_,λi l hl=>?_⟩
  ·have:=h5 i (gm.1 hv).1;unfold oI at this;rw[hv]at this;simp only[gH,pH]at this;exact⟨Ns.1 this.1,this.2⟩
  ·have:=h6 i (gm.1 hl).1;unfold kW at this;rw[hl]at this;simpa using this
 ·rintro⟨h1,h2,h3,h4,h5,h6⟩;refine⟨⟨⟨⟨⟨h1,h2⟩,h3⟩,λr hr=>by simp[h4 r hr]⟩,λi hi=>?_⟩,λi hi=>?_⟩
  ·unfold oI;split
   ·rename_i v hv;obtain⟨a,b⟩:=h5 i v hv;simp[Ns.2 a,b]
   ·rfl
  ·unfold kW;split
   ·rename_i l hl;obtain⟨a,b⟩:=h6 i l hl;simp[a,b]
   ·rfl
def nS.lY{v:fB}(h:nS v):v.zm.length<=4/\∀g∈v.zm,g.ends.length<=4/\1<=g.ends.length/\∀e∈g.ends,Slp.fP e=true/\e.next.length<=4/\1<=e.next.length:=by
 have gn:=j3 h.snap;refine⟨by have:=gn.zk.2;have:=h.len;omega,λg hg=>?_⟩;obtain⟨i,hi⟩:=gW.1 hg;have ft:=(gm.1 hi).1;obtain⟨x,hx⟩:∃x,v.snap.zk[i]?=some x:=⟨_,gp (by have:=h.len;omega)⟩;obtain⟨h1,h2⟩:=h.As i g x hi hx;have gx:=gn.all x (gA hx);refine⟨by have:=gx.zL.2;omega,by have:=gx.zL.1;omega,λe he=>?_⟩;have ge:=h2 e he;have gs:=gx.xR;exact⟨ge.is,by have:=ge.len;omega,by have:=ge.len;omega⟩
structure PF(w:Wor):Prop where
 pins:1<=w.pins.length/\w.pins.length<=8
 counts:w.counts.length=w.pins.length/\∀r∈w.counts,r.length=6
 zr:0<=w.zr/\w.zr<=1000000000000
 lock:w.lock=0\/w.lock=1
 ny:∀p∈w.pins,0<=p/\p<=w.zr+1
def qq{w:Wor}:j4 w=true↔PF w:=by
 unfold j4 BN;simp only[gH,rz,gQ,gI,pO,pD,pH];constructor
 ·rintro⟨⟨⟨⟨⟨⟨⟨h1,h2⟩,h3⟩,⟨h4,h5⟩,h6⟩,h7⟩,h8⟩,h9⟩,h10⟩;exact⟨⟨h1,h2⟩,⟨h3,h4⟩,⟨h7,h8⟩,h9,λp hp=>by have:=h10 p hp;simp[o7]at this;omega⟩
 ·rintro⟨⟨h1,h2⟩,⟨h3,h4⟩,⟨h7,h8⟩,h9,h10⟩;exact⟨⟨⟨⟨⟨⟨⟨h1,h2⟩,h3⟩,⟨h4,aw⟩,aw⟩,h7⟩,h8⟩,h9⟩,λp hp=>by have:=h10 p hp;simp[o7];omega⟩
def B0{N:Nat}{w:Wor}(h:jV w)(t:mM N w)(hN:N<=100000000):jf w:=by
 have g:=qq.1 h.ground;refine⟨by have:=g.pins;omega,⟨by have:=t.lu;omega,λv hv=>?_⟩,by have:=t.fI;omega,⟨by have:=g.counts.1;have:=g.pins;omega,λr hr=>by have:=g.counts.2 r hr;omega⟩,by have:=t.lj;omega⟩;obtain⟨i,hi⟩:=gW.1 hv;have f:=(h.fX i v hi).1.lY;exact⟨aw,λg hg=>⟨by have:=(f.2 g hg).1;omega,λe he=>by have:=((f.2 g hg).2.2 e he).2;omega⟩⟩
def BZ{N:Nat}{w:Wor}(h:jV w)(t:mM N w)(hN:N<=100000000):iC w:=by
 have g:=qq.1 h.ground;refine⟨by have:=g.pins;omega,⟨by have:=t.lu;omega,λv hv=>?_⟩,⟨by have:=t.fI;omega,t.mZ⟩,⟨by have:=g.counts.1;have:=g.pins;omega,λr hr=>by have:=g.counts.2 r hr;omega⟩,by have:=t.lj;omega⟩;obtain⟨i,hi⟩:=gW.1 hv;have f:=(h.fX i v hi).1.lY;have o:=t.i6 v hv;exact⟨o.1,aw,λg hg=>⟨by have:=(f.2 g hg).1;omega,(o.2 g hg).2⟩⟩
def Ou{w:Wor}(h:jV w){i:Nat}{v:fB}(hv:w.ze[i]?=some v):Et v:=by
 have f:=(h.fX i v hv).1.lY;exact⟨aw,λg hg=>by have:=(f.2 g hg).1;omega⟩
def ZF{N:Nat}{w:Wor}{m:fq}(h:jV w)(t:mM N w)(tm:iB m){i:Nat}{v:fB}(hv:w.ze[i]?=some v):GQ m v:=by
 have g:=(h.fX i v hv).1;have o:=(t.i6 v (gA hv)).1;refine⟨⟨o.zd.1,o.rules.1,λr hr=>o.rules.2 r hr⟩,tm.host,tm.path,tm.d0,tm.d1,λ_=>?_⟩;obtain⟨h0,c,hc⟩:=Ng g.snap m.op.listen m.op.host m.op.path;exact⟨h0,c,hc,by have:=((j3 g.snap).all c (gA hc)).zL.2;omega⟩
def WN{w:Wor}(h:jV w){t:Int}(h0:0<=t)(h1:t<w.pins.length):∃r,w.counts[t.toNat]?=some r/\r.length=6:=by
 have g:=qq.1 h.ground;have ft:t.toNat<w.counts.length:=by have:=g.counts.1;omega
 exact⟨_,gp ft,g.counts.2 _ (gZ ft)⟩
def yn{α:Type}(l:List α)(i:Nat){x:α}(h:l[i]?=some x):l.set i x=l:=by
 obtain⟨h1,rfl⟩:=gm.1 h;exact eE h1
def UI{w:Wor}{m:fq}{v:fB}{g:Gr}{e:En}(hat:iz w m v g e):na w m v g e g.zt e.head e.zi=w:=by
 unfold na xq yD qA;rw[yn g.ends _ hat.ia,yn v.zm _ hat.fR,yn w.ze _ hat.at_]
abbrev BS(f:FuncId)(w:Wor)(m:fq)(r:Wor×fq×fx):Prop:=tn f [] [Cw w,Cm m] (.fC [Cw r.1,Cm r.2.1,Ce r.2.2]) []
def Fk{w:Wor}{m:fq}{f:fQ->Wor×fq×fx}{r:Wor×fq×fx}(h:wa w m f=some r):0<=m.listen/\∃x,w.zd[m.listen.toNat]?=some x/\r=f x:=by
 unfold wa at h;split at h
 ·cases h
 obtain⟨x,hx,rfl⟩:=gU.1 h;exact⟨aw,x,hx,rfl⟩
def K7{w:Wor}{m:fq}{k pc:Int}{r:Wor×fq×fx}(h:vO w m k pc=some r):∃r0 x,w.counts[m.zf.toNat]?=some r0/\r0[k.toNat]?=some x/\
  r=({ w with counts:=w.counts.set m.zf.toNat (r0.set k.toNat (IntKind.u64.wrap (x+1))) },{ m with pc:=pc },fV m 3 10 k):=by
 unfold vO at h;split at h
 ·cases h
 split at h
 ·cases h
 rename_i r0 h1 _ x h2;exact⟨r0,x,h1,h2,(gF h).symm⟩
def qP.at_{w:Wor}{m:fq}{v:fB}{g:Gr}{e:En}(su:qP w m v g e):iz w m v g e:=⟨⟨⟨su.version.1,su.ij⟩,su.zg.1,su.fR⟩,su.end_.1,su.ia⟩
def Ur(n:Int):0<=oK n/\oK n<=5:=by
 unfold oK;split <;> omega
section
variable {N:Nat} {w:Wor} {m:fq} {v:fB} {g:Gr} {e:En} {r:Wor×fq×fx}
def Z7(su:qP w m v g e)(hs:z7 w m=true)(t:mM N w)(tm:iB m)(hN:N<=100000000)(h3:m.pc<3)(h:oT w m=some r):BS 126 w m r:=by
 have gw:=qD.1 su.world;have sw:=B0 gw t hN;have ok:=BZ gw t hN;unfold oT at h;split at h
 ·rename_i hpc;cases h
  exact HN aw h3 (Ua w m sw ok tm.listen hpc hs)
 split at h
 ·rename_i hpc;cases h
  exact HN aw h3 (Ub w m sw ok tm.listen hpc hs)
 split at h
 ·rename_i hpc;cases h
  exact HN aw h3 (Uc w m sw ok tm.listen hpc hs)
 ·cases h
def RW(su:qP w m v g e)(hs:z7 w m=true)(t:mM N w)(tm:iB m)(hN:N<=100000000)(h:z8 w m v g e=some r):BS 126 w m r:=by
 have gw:=qD.1 su.world;have sw:=B0 gw t hN;have ok:=BZ gw t hN;have hl:=tm.listen;have at_:=su.at_;have gv:=(gw.fX _ v su.ij).1;have oe:=(t.i6 v (gA su.ij)).2 g (gA su.fR);have okE:=oe.2 e (gA su.ia)
 have hne:e.next≠[]:=by
  intro h0;have:=su.slot;rw[h0]at this;exact de
 unfold z8 at h;by_cases h3:m.pc<3
 ·rw[gC h3]at h;exact Z7 su hs t tm hN h3 h
 rw[gu h3]at h;by_cases p:m.pc=3
 ·rw[gC p]at h;cases h
  exact W4 sw ok hl p hs (Qo w m (by have:=t.fI;omega))
 rw[gu p]at h
 clear p
 by_cases p:m.pc=4
 ·rw[gC p]at h;obtain⟨l0,x,hx,rfl⟩:=Fk h;exact W5 sw ok hl p hs l0 aj (R9 w m x l0 hx)
 rw[gu p]at h
 clear p
 by_cases p:m.pc=5
 ·rw[gC p]at h;obtain⟨l0,x,hx,rfl⟩:=Fk h;exact W6 sw ok hl p hs l0 (QD w m v at_.tooA (ZF gw t tm su.ij) l0 hx)
 rw[gu p]at h
 clear p
 by_cases p:m.pc=6
 ·rw[gC p]at h;obtain⟨c,hc,rfl⟩:=gU.1 h;exact W7 sw ok hl p hs at_ hne (Sl w m v g e c at_.ln hc oe.1 (by have:=((j3 gv.snap).all c (gA hc)).zL.2;omega))
 rw[gu p]at h
 clear p
 by_cases p:m.pc=7
 ·rw[gC p]at h;cases h
  exact WB sw ok hl p hs (Qn w m v g e at_)
 rw[gu p]at h
 clear p
 by_cases p:m.pc=8
 ·rw[gC p]at h;obtain⟨e2,he2,rfl⟩:=gU.1 h;exact WD sw ok hl p hs (Ql w m v g e2 at_.toDf su.other.1 he2)
 rw[gu p]at h
 clear p
 by_cases p:m.pc=9
 ·rw[gC p]at h;by_cases q:0<=zD e.head/\zD e.head<e.next.length
  ·rw[gC q]at h;cases h
   exact MZ sw ok hl p hs (QJ w m v g e at_ okE.1 q)
  ·rw[gu q]at h;cases h
   exact MZ sw ok hl p hs (Qz w m v g e at_ okE.1 q)
 rw[gu p]at h
 clear p
 by_cases p:m.pc=10
 ·rw[gC p]at h;obtain⟨x,hx,rfl⟩:=gU.1 h;exact Vh sw ok hl p hs (QK w m v g e at_ su.slot.1 hx)
 rw[gu p]at h
 clear p
 by_cases p:m.pc=11
 ·rw[gC p]at h;by_cases q:e.head=m.word
  ·rw[gC q]at h;cases h
   exact MO sw ok hl p hs at_ hne (Qs w m v g e at_.ln tm.word tm.link.1 tm.link.2 q)
  ·rw[gu q]at h;cases h
   have:=MO sw ok hl p hs at_ hne (QG w m v g e at_.ln tm.word tm.link.1 tm.link.2 okE.1 q)
   rwa [UI at_]at this
 rw[gu p]at h
 clear p
 by_cases p:m.pc=12
 ·rw[gC p]at h;cases h
  exact Vi sw ok hl p hs at_ hne (Rq w m v g e at_.ln)
 rw[gu p]at h
 clear p
 by_cases p:m.pc=20
 ·rw[gC p]at h;obtain⟨r0,x,hr,hx,rfl⟩:=K7 h;exact Vj sw ok hl p hs su.zf.1 hr (by rintro rfl;simp at hx) aj (QH w m r0 x _ rfl su.zf.1 hr hx)
 rw[gu p]at h
 clear p
 by_cases p:m.pc=21
 ·rw[gC p]at h;obtain⟨r0,x,hr,hx,rfl⟩:=K7 h;exact Vk sw ok hl p hs su.zf.1 hr (by rintro rfl;simp at hx) aj (QO w m r0 x su.zf.1 hr hx)
 rw[gu p]at h
 clear p
 by_cases p:m.pc=22
 ·rw[gC p]at h;obtain⟨l0,x,hx,rfl⟩:=Fk h;exact Vl sw ok hl p hs l0 aj (R0 w m x l0 hx)
 rw[gu p]at h
 clear p
 by_cases p:m.pc=23
 ·rw[gC p]at h;cases h
  exact Vm sw ok hl p hs (Sy w m sw ok hl hs)
 rw[gu p]at h;cases h
def Sb(su:qP w m v g e)(hs:z7 w m=true)(t:mM N w)(tm:iB m)(hN:N<=100000000)(h:xv w m v g e=some r):BS 127 w m r:=by
 have gw:=qD.1 su.world;have sw:=B0 gw t hN;have ok:=BZ gw t hN;have hl:=tm.listen;have at_:=su.at_;have gv:=(gw.fX _ v su.ij).1;have oe:=(t.i6 v (gA su.ij)).2 g (gA su.fR);have okE:=oe.2 e (gA su.ia);have ln:=((gv.lY.2 g (gA su.fR)).2.2 e (gA su.ia)).2
 have hne:e.next≠[]:=by
  intro h0;rw[h0]at ln;simp at ln
 have sl:=su.slot;unfold xv at h;by_cases p:m.pc=0
 ·rw[gC p]at h;cases h
  exact Tn w m v g e sw ok hl p hs at_ tm.word okE.1
 rw[gu p]at h
 clear p
 by_cases p:m.pc=1
 ·rw[gC p]at h;cases h
  exact To w m v g e sw ok hl p hs at_ hne tm.word okE.1 sl.1 aw rfl rfl rfl
 rw[gu p]at h
 clear p
 by_cases p:m.pc=2
 ·rw[gC p]at h;by_cases q:e.head=m.word
  ·rw[gC q]at h;cases h
   exact Tp w m v g e sw ok hl p hs at_ hne tm.word okE.1 q aw aw rfl rfl rfl
  ·rw[gu q]at h;cases h
   exact RQ w m v g e sw ok hl p hs at_ tm.word okE.1 q
 rw[gu p]at h
 clear p
 by_cases p:m.pc=3
 ·rw[gC p]at h;cases h
  exact Tq w m v g e sw ok hl p hs at_ hne tm.word okE.1 rfl rfl rfl
 rw[gu p]at h
 clear p
 by_cases p:m.pc=4
 ·rw[gC p]at h;obtain⟨l0,x,hx,rfl⟩:=Fk h;exact Ts w m v g e x sw ok hl p hs at_ tm.word okE.1 l0 hx
 rw[gu p]at h
 clear p
 by_cases p:m.pc=9
 ·rw[gC p]at h;cases h
  exact Tt w m v g e sw ok hl p hs at_ tm.word okE.1
 rw[gu p]at h;cases h
end
section
variable {N:Nat} {w:Wor} {m:fq} {v:fB} {g:Gr} {e:En} {r:Wor×fq×fx}
def UX{l:List fA}{s:fA}(h:l.any (λx=>x == s)=true):kY l (yI l s)=s:=by
 unfold yI;cases hf:l.findIdx? (λx=>x == s) with
 |none=>
  rw[gX]at hf;obtain⟨x,hx,he⟩:=rB.1 h;rw[hf x hx]at he;cases he
 |some i=>
  obtain⟨h1,h2,_⟩:=gR.1 hf;show kY l ((i:Nat):Int)=s;unfold kY;rw[gC ⟨aw,aq h1⟩];simp only[pP,gp h1,pS];simpa using h2
def UW{l:List ic}{s:fA}(h:vX l s=true):vN l (nN l s)=s:=by
 unfold vX at h;unfold nN;cases hf:l.findIdx? (λx=>x.name == s) with
 |none=>
  rw[gX]at hf;obtain⟨x,hx,he⟩:=rB.1 h;rw[hf x hx]at he;cases he
 |some i=>
  obtain⟨h1,h2,_⟩:=gR.1 hf;show vN l ((i:Nat):Int)=s;unfold vN;rw[gC ⟨aw,aq h1⟩];simp only[pP,gp h1,gL,pS];simpa using h2
def VB{c:ib}(h:(qO c).1=0):mj (qa c).1=c:=by
 obtain⟨_,_,_,h4⟩:=K6 h;unfold qa;rw[gu aw];obtain⟨ls,rs,cs⟩:=c;unfold mj;simp only[rY,ib.mk.injEq,eh,and_true];refine pL λi=>?_
 rw[gz];cases hi:rs[i]? with
 |none=>rfl
 |some r=>
  obtain⟨a,_,_,b⟩:=Mo (c:=⟨ls,rs,cs⟩) hi (Bg h4 i (gm.1 hi).1);simp only[gL,Function.comp,gV];unfold Al AK;dsimp only;rw[UX a,UW b]
def HG{c:ib}(h:(qO c).1=0):vB (qa c).1=true:=by
 unfold vB;rw[VB h,h]
 rfl
def HR(c:ib):(qa c).2.1=(qO c).1:=by
 unfold qa;split
 ·rfl
 ·rename_i h;simpa using (Decidable.of_not_not h).symm
def Hq(c:ib):oO c=(qO c).1:=by
 unfold oO;rw[HR];split
 ·rfl
 ·rename_i h;have h:(qO c).1=0:=Decidable.of_not_not h;unfold q8;rw[gC (HG h),h]
def VG(su:qP w m v g e)(hs:z7 w m=true)(t:mM N w)(tm:iB m)(hN:N<=100000000)(hk:m.op.kind=3)(h:m9 w m=some r):BS 128 w m r:=by
 have gw:=qD.1 su.world;have sw:=B0 gw t hN;have ok:=BZ gw t hN;have hl:=tm.listen;unfold m9 at h;by_cases p:m.pc=0
 ·rw[gC p]at h;by_cases q:oO m.op.config=0
  ·rw[gC q]at h;cases h
   exact SN w m sw ok hl p hs (Hc (tm.cfg hk) (by rw[<-Hq];exact q)) q
  ·rw[gu q]at h;cases h
   exact Q7 w m _ sw ok hl p hs (tm.cfg hk) (by rw[HR,Hq]) q
 rw[gu p]at h
 clear p
 by_cases p:m.pc=1
 ·rw[gC p]at h;cases h
  exact SO w m sw ok hl p hs
 rw[gu p]at h
 clear p
 by_cases p:m.pc=2
 ·rw[gC p]at h;cases q:nV w m
  ·rw[q]at h;cases h
   cases hx:w.zu with
   |nil=>have:=Sh w m sw ok hl p hs q hx;rwa [hx]at this
   |cons x l=>have:=SP w m x l sw ok hl p hs q hx;rwa [hx]at this
  ·rw[q]at h;cases h
 rw[gu p]at h;cases h
def Ti(su:qP w m v g e)(hs:z7 w m=true)(t:mM N w)(tm:iB m)(hN:N<=100000000)(h:yZ w m=some r):BS 129 w m r:=by
 have gw:=qD.1 su.world;have sw:=B0 gw t hN;have ok:=BZ gw t hN;have hl:=tm.listen;unfold yZ at h;by_cases p:m.pc=0
 ·rw[gC p]at h;by_cases q:zM w.zd m.op.listen<0
  ·rw[gC q]at h;cases h
   exact Rl w m sw ok hl p hs q
  ·rw[gu q]at h;obtain⟨x,hx,rfl⟩:=gU.1 h;exact QP w m x sw ok hl p hs aw hx
 rw[gu p]at h;cases h
def UB(su:qP w m v g e)(hs:z7 w m=true)(t:mM N w)(tm:iB m)(hN:N<=100000000)(hk:m.op.kind=6)(h:yR w m=some r):BS 131 w m r:=by
 have gw:=qD.1 su.world;have sw:=B0 gw t hN;have ok:=BZ gw t hN;unfold yR at h;split at h
 rotate_left
 ·cases h
 rename_i p;obtain⟨rw_,h1,h2⟩:=pj.1 h;obtain⟨n,h3,rfl⟩:=gU.1 h2;exact SD w m rw_ n sw ok tm.listen p.1 hs su.done ⟨su.i,h1,su.k,p.2,h3⟩ (tm.mB hk su.done)
def DG(gw:jV w){i:Nat}{x:fT}(hx:w.zu[i]?=some x):0<=x.at_/\x.at_<=w.zr/\0<=x.version/\x.version<w.ze.length/\x.version≠w.current:=by
 have h1:=gw.bad x (gA hx);have h2:=pA (show decide (∀i,(h:i<w.zu.length)->Go.Lim.iy w.zu i w.zu[i]=true)=true from gw.zu) i (gm.1 hx).1;rw[(gm.1 hx).2]at h2;unfold yA at h1;unfold Go.Lim.iy at h2;simp at h1 h2;omega
def Od(h0:0<=m.i):tn 169 [⟨1,38,8,[zU w],0⟩,⟨1,95,44,[zE m],0⟩] [.agg tj] (Ce (mY w m).2.2) [⟨1,38,8,[zU (mY w m).1],0⟩,⟨1,95,44,[zE (mY w m).2.1],0⟩]:=by
 unfold mY;cases hx:w.zd[m.i.toNat]? with
 |none=>exact Qi w m (by have:=rA.1 hx;omega)
 |some l=>exact Qy w m l h0 hx
def RL(su:qP w m v g e)(hs:z7 w m=true)(t:mM N w)(tm:iB m)(hN:N<=100000000)(h:xu w m=some r):BS 130 w m r:=by
 have gw:=qD.1 su.world;have sw:=B0 gw t hN;have ok:=BZ gw t hN;have hl:=tm.listen;have av:=su.at_.tooA;unfold xu at h;by_cases p:m.pc=0
 ·rw[gC p]at h;by_cases q:w.lock=0
  ·rw[gC q]at h;cases h
   (exact jP sw ok hl hs (xx w m aw) 0 _ rfl (λ_ _ _ _ _ _ _ _ _ _=>by rw[p];rfl) rfl (Q3 w m q))
  ·rw[gu q]at h;cases h
   (exact jP sw ok hl hs (xx w m aw) 0 _ rfl (λ_ _ _ _ _ _ _ _ _ _=>by rw[p];rfl) rfl (Rv w m q))
 rw[gu p]at h
 clear p
 by_cases p:m.pc=1
 ·rw[gC p]at h;cases h
  (exact jP sw ok hl hs (xx w m aw) 1 _ rfl (λ_ _ _ _ _ _ _ _ _ _=>by rw[p];rfl) rfl (Go.Wor.QE w m))
 rw[gu p]at h
 clear p
 by_cases p:m.pc=2
 ·rw[gC p]at h;obtain⟨x,hx,rfl⟩:=gU.1 h;have ft:=(gm.1 hx).1;have si:=su.i;exact jP sw ok hl hs (Uy w m p aw) 2 _ rfl (λ_ _ _ _ _ _ _ _ _ _=>by rw[p];rfl) rfl (QZ w m x su.i hx)
 rw[gu p]at h
 clear p
 by_cases p:m.pc=3
 ·rw[gC p]at h;by_cases q:w.zr=m.zr/\w.zr<1000000000000
  ·rw[gC q]at h;cases h
   (exact jP sw ok hl hs (xx w m aw) 3 _ rfl (λ_ _ _ _ _ _ _ _ _ _=>by rw[p];rfl) rfl (Qh w m q.1 q.2))
  ·rw[gu q]at h;cases h
   (exact jP sw ok hl hs (xx w m aw) 3 _ rfl (λ_ _ _ _ _ _ _ _ _ _=>by rw[p];rfl) rfl (Qr w m q))
 rw[gu p]at h
 clear p
 by_cases p:m.pc=4
 ·rw[gC p]at h;cases hx:w.zu[m.i.toNat]? with
  |none=>
   rw[hx]at h;cases h
   (exact jP sw ok hl hs (xx w m aw) 4 _ rfl (λ_ _ _ _ _ _ _ _ _ _=>by rw[p];rfl) rfl (Qj (by have:=rA.1 hx;have:=su.i;omega) (Od (m:=iP m 8 0) (gY _))))
  |some x=>
   rw[hx]at h;cases h
   have la:=DG gw hx;have ge:=(qq.1 gw.ground).zr
   (exact jP sw ok hl hs (xx w m aw) 4 _ rfl (λ_ _ _ _ _ _ _ _ _ _=>by rw[p];rfl) rfl (QF w m x ⟨aw,aw⟩ su.i hx))
 rw[gu p]at h
 clear p
 by_cases p:m.pc=5
 ·rw[gC p]at h;obtain⟨v',hv',h⟩:=pj.1 h;obtain⟨x,hx,rfl⟩:=gU.1 h;have ft:=(gm.1 hx).1;have sk:=su.k;exact jP sw ok hl hs (Uz w m v' (Ou gw hv') p ⟨su.version.1,hv'⟩ aw) 5 _ rfl (λ_ _ _ _ _ _ _ _ _ _=>by rw[p];rfl) rfl (Qx w m v' x (Ou gw hv') ⟨su.version.1,hv'⟩ su.k hx)
 rw[gu p]at h
 clear p
 by_cases p:m.pc=6
 ·rw[gC p]at h;obtain⟨v',hv',h⟩:=pj.1 h;obtain⟨x,hx,h⟩:=pj.1 h;split at h
  rotate_left
  ·cases h
  rename_i q;cases h
  exact RN sw ok hl hs (TX w m x p su.i hx q.1 q.2) 6 _ rfl (λ_ _ _ _ _ _ _ _ _ _=>by rw[p];rfl) rfl (by rintro h0;rw[h0]at hv';simp at hv') (by rintro h0;rw[h0]at hx;simp at hx) aj aj (E4 w m v' x ⟨su.version.1,hv'⟩ su.i hx)
 rw[gu p]at h
 clear p
 by_cases p:m.pc=8
 ·rw[gC p]at h;cases h
  (exact jP sw ok hl hs (xx w m aw) 7 _ rfl (λ_ _ _ _ _ _ _ _ _ _=>by rw[p];rfl) rfl (Od su.i))
 rw[gu p]at h
 clear p
 by_cases p:m.pc=9
 ·rw[gC p]at h;obtain⟨x,hx,rfl⟩:=gU.1 h;have ft:=(gm.1 hx).1;have si:=su.i;exact jP sw ok hl hs (TY w m p aw) 8 _ rfl (λ_ _ _ _ _ _ _ _ _ _=>by rw[p];rfl) rfl (QB w m x su.i hx)
 rw[gu p]at h
 clear p
 by_cases p:m.pc=10
 ·rw[gC p]at h;obtain⟨x,hx,h⟩:=pj.1 h;split at h
  rotate_left
  ·cases h
  rename_i q;cases h
  exact RO sw ok hl hs (SS w m x p su.i hx q) 9 _ rfl (λ_ _ _ _ _ _ _ _ _ _=>by rw[p];rfl) rfl (by rintro h0;rw[h0]at hx;simp at hx) aj (TV w m x su.i hx)
 rw[gu p]at h;cases h
end
end Go.Wor
namespace Go.Wor
open Go.Ab Go.Proofs Tryz Go.Gat Go.Nam Go.Hos Go.Con Go.Sna Go.Pla
open Go.Hy hiding encI
abbrev Yy(w:Wor)(m:fq)(r:Wor×fq×fx):Prop:=tn 63 [] [Sw w,Sm m] (Sr r.1 r.2.1 r.2.2) []
def Ud{N:Nat}{w:Wor}{m:fq}{r:Wor×fq×fx}(hs:z7 w m=true)(t:mM N w)(tm:iB m)(hN:N<=100000000)(h:x2 w m=some r):Yy w m r:=by
 obtain⟨v,g,e,su⟩:=yL hs;unfold x2 at h;rw[su.ij]at h;dsimp only at h;rw[su.fR]at h;dsimp only at h;rw[su.ia]at h;dsimp only at h;by_cases k:m.op.kind=1
 ·rw[gC k]at h;exact SE k (RW su hs t tm hN h)
 rw[gu k]at h
 clear k
 by_cases k:m.op.kind=2
 ·rw[gC k]at h;exact SF k (Sb su hs t tm hN h)
 rw[gu k]at h
 clear k
 by_cases k:m.op.kind=3
 ·rw[gC k]at h;exact SG k (VG su hs t tm hN k h)
 rw[gu k]at h
 clear k
 by_cases k:m.op.kind=4
 ·rw[gC k]at h;exact SH k (Ti su hs t tm hN h)
 rw[gu k]at h
 clear k
 by_cases k:m.op.kind=5
 ·rw[gC k]at h;exact SJ k (RL su hs t tm hN h)
 rw[gu k]at h
 clear k
 by_cases k:m.op.kind=6
 ·rw[gC k]at h;exact SK k (UB su hs t tm hN k h)
 rw[gu k]at h;cases h
end Go.Wor
