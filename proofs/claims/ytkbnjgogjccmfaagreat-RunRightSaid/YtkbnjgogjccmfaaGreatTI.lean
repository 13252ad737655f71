import Derived.Test.YtkbnjgogjccmfaaGreatTY
import Derived.Test.YtkbnjgogjccmfaaGreatTG
import Derived.Test.YtkbnjgogjccmfaaGreatTH
import Derived.Test.YtkbnjgogjccmfaaGreatTZ
set_option linter.all false
set_option maxRecDepth 100000
set_option maxHeartbeats 4000000
namespace Go.Wor
open Go.Ab Go.Proofs Tryz Go.Hy Go.Gat Go.Nam Go.Hos Go.Con Go.Sna
def Ou (w:Wor) (m:uw) (v:u3) (g:Gr) (e:En) (sw:qX w) (ok:fe w) (hl:i64 m.listen) (hpc:m.pc=2) (hs:zY w m=true) (hat:fc w m v g e) (hw:u64 m.word) (hh:u64 e.head) (hne:e.head≠m.word):
  tn 97 [] [Cw w,Cm m] (.u1 [Cw w,Cm { m with pc:=0 },Ce (fi m v 5 8 (e.head % 4294967296 - 1))]) []:=by
 have a0:=hat.v0;have a1:=hat.tomN.row;have b0:=hat.g0;have b1:(v.zm.map zE)[m.zi.toNat]?= some (zE g):=by rw [dP,hat.ey];rfl
 have c0:=hat.e0;have c1:(g.ends.map zx)[m.end_.toNat]?= some (zx e):=by rw [dP,hat.eL];rfl
 refine ab func97 ?_;(repeat (first | refine uA ?_ | refine uB ?_))
 refine ah (zO w m ok hl) ?_;refine ⟨fun _=>dd ?_,fun h=>absurd ((hs).symm.trans h:true=false) ar⟩;(repeat (first | refine uA ?_ | refine uB ?_))
 refine tc ?_
 refine ah (qw w sw) ?_;refine uE ?_;(refine ⟨a0,_,a1,dd ?_⟩)
 (refine ⟨b0,_,b1,dd ?_⟩)
 (refine ⟨c0,_,c1,dd ?_⟩)
 refine ah (Slp.qG m.word hw) ?_;refine .inr ⟨⟨[0,1,5,6,7],[0,1],true⟩,au,fun _=>rfl,_,uH ?_,fun t2 H2 h=>h⟩;refine ⟨_,ai [] (Slp.qG e.head hh),uH ?_⟩;refine ⟨_,ai [] (yS w m v hat.tomN 1 8 (e.head % 4294967296 - 1)),uH ?_⟩;(refine ⟨uH ?_,trivial⟩);refine hZ ?_
 (refine ⟨uH ?_,trivial⟩);refine hZ ?_
 (refine ⟨_,_,.refl _,uH ?_⟩)
 (repeat (first | refine uA ?_ | refine uB ?_))
 refine uE ?_;refine ⟨fun _=>dd ?_,fun h=>absurd h (aq hne)⟩;refine wG.go rfl (uH ?_);refine .inl ⟨⟨false,[0,1,2],[5,1,6],[]⟩,au,uH ?_⟩;refine hZ ?_
 exact uI
def Na (w:Wor) (m:uw) (v:u3) (g:Gr) (e:En) (hv:fc w m v g e) (he:u64 e.head) (hi:¬(0<=e.head % 4294967296 - 1∧e.head % 4294967296 - 1 < e.next.length)):
  tn 147 [⟨1,37,8,[zJ w],0⟩,⟨1,69,44,[zD (m)],0⟩] [.agg tj] (Ce (fi m v 1 8 (e.head % 4294967296 - 1))) [⟨1,37,8,[zJ w],0⟩,⟨1,69,44,[zD (lX { m with word:=e.head } 4)],0⟩]:=by
 have ml:(e.next.map Go.Hy.encI).length=e.next.length:=dR ..;refine aa func147 ?_;refine DP [0,1] (kM w m v g e hv) rfl rfl rfl rfl rfl rfl (dd ?_);refine ah (Slp.qG e.head he) ?_;refine ⟨fun q1=>?_,fun q1=>?_⟩
 ·refine dd ?_;refine tc ?_
  refine af [1] (vz { m with word:=e.head } 4) ?_;refine af [0,1] (kT w (lX { m with word:=e.head } 4) v ⟨hv.v0,hv.at_⟩ 1 8 (e.head % 4294967296 - 1)) ?_;exact cI
 ·refine dd ?_;refine DP [0,1] (kM w { m with word:=e.head } v g e ⟨⟨⟨hv.v0,hv.at_⟩,hv.g0,hv.ey⟩,hv.e0,hv.eL⟩) rfl rfl rfl rfl rfl rfl (dd ?_);rw [ml];refine ⟨fun q2=>?_,fun q2=>?_⟩
  ·refine dd ?_;refine tc ?_
   refine af [1] (vz { m with word:=e.head } 4) ?_;refine af [0,1] (kT w (lX { m with word:=e.head } 4) v ⟨hv.v0,hv.at_⟩ 1 8 (e.head % 4294967296 - 1)) ?_;exact cI
  ·exact absurd ⟨bU,by simp at q2;omega⟩ hi
abbrev mP:=Option (Wor × uw × uz)
def o3 (w:Wor) (m:uw):mP:=
 if m.pc=0 then some (w,{ m with zn:=w.zn,pc:=1 },nM m (nP w.zn))
 else if m.pc=1 then some (nn w m.zf.toNat (IntKind.i64.wrap (m.zn+1)),{ m with pc:=2 },nM m ⟨0,0,2,2,0,false,IntKind.i64.wrap (m.zn+1),false,false,false,wR⟩)
 else if m.pc=2 then some (w,{ m with zn:=w.zn,pc:=if w.zn=m.zn then 3 else 1 },nM m (nP w.zn))
 else none
abbrev Mk (x:eE):eE:={ x with zg:=IntKind.i64.wrap (x.zg+1) }
abbrev zC (x:Int):Int:=x % 4294967296 - 1
abbrev AS (m:uw):ef:=⟨1,m.version,m.zi,m.end_,m.slot,m.listen,0,⟨0,0,0,0,0,0⟩⟩
def wW (w:Wor) (m:uw) (k pc:Int):mP:=match w.counts[m.zf.toNat]? with
 | none=>none
 | some r0=>match r0[k.toNat]? with
  | none=>none
  | some x=>some ({ w with counts:=w.counts.set m.zf.toNat (r0.set k.toNat (IntKind.u64.wrap (x+1))) },{ m with pc:=pc },ez m 3 10 k)
def iy (w:Wor) (m:uw) (f:eE->Wor × uw × uz):mP:=if m.listen < 0 then none else (w.zd[m.listen.toNat]?).map f
def qf (w:Wor) (m:uw) (v:u3) (g:Gr) (e:En):mP:=
 if m.pc < 3 then o3 w m
 else if m.pc=3 then some (w,if zS w.zd m.op.listen < 0 then lX (Ay w m) 2 else Ay w m,HT (ez m 1 3 w.current))
 else if m.pc=4 then iy w m fun x=>({ w with zd:=w.zd.set m.listen.toNat (Mk x) },{ m with pc:=5 },ez m 3 5 (IntKind.i64.wrap (x.zg+1)))
 else if m.pc=5 then iy w m fun l=>(w,if l.drain then lX m 5 else xx m v,if l.drain then { ez m 1 4 1 with qR:=true } else ez m 1 4 0)
 else if m.pc=6 then (v.snap.zk[m.zi.toNat]?).map fun c=>(wU w m v g e (IntKind.u64.wrap (g.zt+1)) e.head e.zg,DK m c g.zt,fi m v 3 6 (IntKind.i64.wrap g.zt))
 else if m.pc=7 then some (w,{ m with i:=e.zg,pc:=8 },fi m v 1 7 e.zg)
 else if m.pc=8 then (g.ends[m.other.toNat]?).map fun e2=>(w,{ m with end_:=if e2.zg < m.i then m.other else m.end_,pc:=9 },fi m v 1 7 e2.zg)
 else if m.pc=9 then some (w,if 0<=zC e.head∧zC e.head < e.next.length then { m with word:=e.head,slot:=zC e.head,pc:=10 } else lX { m with word:=e.head } 4,fi m v 1 8 (zC e.head))
 else if m.pc=10 then (e.next[m.slot.toNat]?).map fun x=>(w,{ m with link:=x,pc:=11 },fi m v 1 9 x)
 else if m.pc=11 then (if e.head=m.word then some (wU w m v g e g.zt (Slp.qV m.word m.link) e.zg,{ m with pc:=12 },fi m v 4 8 m.slot) else some (w,{ m with pc:=9 },fi m v 5 8 (zC e.head)))
 else if m.pc=12 then some (wU w m v g e g.zt e.head (IntKind.i64.wrap (e.zg+1)),{ m with answer:=AS m,pc:=20 },fi m v 3 7 (IntKind.i64.wrap (e.zg+1)))
 else if m.pc=20 then wW w m (mW m.answer.kind) 21
 else if m.pc=21 then wW w m 0 (if m.answer.kind=1∨m.listen < 0 then 23 else 22)
 else if m.pc=22 then iy w m fun x=>({ w with zd:=w.zd.set m.listen.toNat (oS x) },{ m with pc:=23 },ez m 3 5 (IntKind.i64.wrap (x.zg - 1)))
 else if m.pc=23 then some (nn w m.zf.toNat 0,{ m with done:=true },{ CS m with done:=true,answer:=m.answer })
 else none
def yp (w:Wor) (m:uw) (v:u3) (g:Gr) (e:En):mP:=
 if m.pc=0 then some (w,{ m with word:=e.head,pc:=1 },fi m v 1 8 (zC e.head))
 else if m.pc=1 then some (wU w m v g (vg m e) g.zt e.head e.zg,{ m with pc:=2 },fi m v 2 9 (zC m.word))
 else if m.pc=2 then (if e.head=m.word then some (wU w m v g e g.zt (Slp.qV m.word m.slot) e.zg,{ m with pc:=3 },{ fi m v 4 8 m.slot with qR:=true }) else some (w,{ m with pc:=0 },fi m v 5 8 (zC e.head)))
 else if m.pc=3 then some (wU w m v g e g.zt e.head (IntKind.i64.wrap (e.zg - 1)),{ m with pc:=4 },fi m v 3 7 (IntKind.i64.wrap (e.zg - 1)))
 else if m.pc=4 then iy w m fun x=>({ w with zd:=w.zd.set m.listen.toNat (oS x) },{ m with answer:=Hb m,done:=true },Me m x)
 else if m.pc=9 then some (w,{ m with answer:=iA 7,done:=true },Ml m)
 else none
def y5 (w:Wor) (m:uw):mP:=
 if m.pc=0 then (if lQ m.op.config=0 then some ({ w with current:=w.ze.length,ze:=w.ze++[y4 m.op.config] },iQ m w.current w.ze.length,{ ez m 6 3 w.ze.length with qR:=true })
  else some (w,{ m with done:=true,answer:=oG (lQ m.op.config) },{ ez m 1 3 w.current with qR:=true,done:=true,answer:=oG (lQ m.op.config) }))
 else if m.pc=1 then some (w,{ m with zn:=w.zn,pc:=2 },ez m 1 1 w.zn)
 else if m.pc=2 then (if wo w m then none else some ({ w with zr:=w.zr++[⟨m.version,m.zn,false⟩] },{ m with done:=true,answer:=oZ m },{ ez m 2 11 m.version with done:=true,answer:=oZ m }))
 else none
abbrev Mw (p:Int):ef:=⟨10,0,0,0,0,p,0,⟨0,0,0,0,0,0⟩⟩
def wa (w:Wor) (m:uw):mP:=
 if m.pc=0 then (if zS w.zd m.op.listen < 0 then some (w,{ m with done:=true,answer:=iA 7 },{ EB m with done:=true,answer:=iA 7 })
  else (w.zd[(zS w.zd m.op.listen).toNat]?).map fun x=>({ w with zd:=w.zd.set (zS w.zd m.op.listen).toNat (Go.Gat.wX x) },{ m with listen:=zS w.zd m.op.listen,done:=true,answer:=Mw (zS w.zd m.op.listen) },{ Hz m with done:=true,answer:=Mw (zS w.zd m.op.listen) }))
 else none
def mq (w:Wor) (m:uw):Wor × uw × uz:=match w.zd[m.i.toNat]? with
 | none=>({ w with lock:=0 },{ m with done:=true,answer:=CN 11 m.answer.n },{ ez m 2 14 0 with done:=true,answer:=CN 11 m.answer.n })
 | some l=>(w,o6 m l,Ee m l)
def yu (w:Wor) (m:uw):mP:=
 if m.pc=0 then some (if w.lock=0 then ({ w with lock:=1 },{ m with pc:=1 },ez m 4 14 1) else (w,{ m with done:=true,answer:=iA 12 },{ ez m 5 14 1 with done:=true,answer:=iA 12 }))
 else if m.pc=1 then some (w,{ m with zn:=w.zn,pc:=2,i:=0 },ez m 1 1 w.zn)
 else if m.pc=2 then (w.pins[m.i.toNat]?).map fun p=>(w,nR w m p,ez m 1 2 p)
 else if m.pc=3 then some (if w.zn=m.zn∧w.zn < 1000000000000 then ({ w with zn:=IntKind.i64.wrap (w.zn+1) },{ fD m 4 0 with zn:=IntKind.i64.wrap (w.zn+1) },ez m 4 1 (IntKind.i64.wrap (w.zn+1))) else (w,fD m 4 0,ez m 5 1 w.zn))
 else if m.pc=4 then some (match w.zr[m.i.toNat]? with | none=>mq w (fD m 8 0) | some r=>(w,nQ m r,ez m 1 11 r.version))
 else if m.pc=5 then (w.ze[m.version.toNat]?).bind fun v=>((yo v)[m.k.toNat]?).map fun e=>(w,oC m v e.zg,CU m v e.zg)
 else if m.pc=6 then (w.ze[m.version.toNat]?).bind fun v=>(w.zr[m.i.toNat]?).bind fun r=>if r.version=m.version∧r.gone=false then
  some ({ w with ze:=w.ze.set m.version.toNat (nX v),zr:=w.zr.set m.i.toNat (wj r) },BB m,ez m 2 12 m.version) else none
 else if m.pc=8 then some (mq w m)
 else if m.pc=9 then (w.zd[m.i.toNat]?).map fun l=>(w,if l.zg=0 then { m with pc:=10 } else fD m 8 (IntKind.i64.wrap (m.i+1)),ez m 1 5 l.zg)
 else if m.pc=10 then (w.zd[m.i.toNat]?).bind fun l=>if l.drain then some ({ w with zd:=w.zd.set m.i.toNat (CD l) },fD m 8 (IntKind.i64.wrap (m.i+1)),ez m 2 13 1) else none
 else none
def vJ (w:Wor) (m:uw):mP:=
 if m.pc=0∧m.k < 6 then (w.counts[m.i.toNat]?).bind fun r=>(r[m.k.toNat]?).map fun n=>(w,jg w m n,Bi w m n) else none
def kC (w:Wor) (m:uw):mP:=match w.ze[m.version.toNat]? with
 | none=>none
 | some v=>match v.zm[m.zi.toNat]? with
  | none=>none
  | some g=>match g.ends[m.end_.toNat]? with
   | none=>none
   | some e=>if m.op.kind=1 then qf w m v g e else if m.op.kind=2 then yp w m v g e else if m.op.kind=3 then y5 w m else if m.op.kind=4 then wa w m
    else if m.op.kind=5 then yu w m else if m.op.kind=6 then vJ w m else none
structure ig (N:Nat) (w:Wor):Prop where
 iu:w.ze.length<=N
 ec:w.zd.length<=N
 fQ:w.zr.length<=N
 fL:∀ v ∈ w.ze,wV v.snap∧∀ g ∈ v.zm,u64 g.zt∧∀ e ∈ g.ends,e.ok
 lq:∀ l ∈ w.zd,l.ok
structure eU (m:uw):Prop where
 listen:i64 m.listen
 word:u64 m.word
 link: -1<=m.link∧m.link<=2147483646
 host:m.op.host.length < 1000000000000000
 path:m.op.path.length < 1000000000000000
 d0:i64 m.op.d0
 d1:i64 m.op.d1
 cfg:m.op.kind=3->xB m.op.config
 iF:m.op.kind=6->m.done=false->m.answer=wR
def Iy {c:eP} (h:(qN c).1=0):(yZ c).1=0∧(j7 (m9 c.zd) c.zd.length).1=0∧(j7 (ma c.zk) c.zk.length).1=0∧(j7 (nr c) c.zP.length).1=0:=by
 unfold qN at h;split at h
 ·contradiction
 rename_i h1;split at h
 ·contradiction
 rename_i h2;split at h
 ·contradiction
 rename_i h3;split at h
 ·contradiction
 rename_i h4;exact ⟨aq h1,Decidable.of_not_not h2,Decidable.of_not_not h3,Decidable.of_not_not h4⟩
def JY {c:eP} {i:Nat} {r:lb} (hr:c.zP[i]?= some r) (h:nr c i=0):c.zd.any (fun x=>x == r.listen)=true∧mK r.host=true∧my r.path=true∧nT c.zk r.zi=true:=by
 unfold nr at h;rw [hr] at h;dsimp only at h;split at h
 ·cases h
 rename_i h1;split at h
 ·cases h
 rename_i h2;split at h
 ·cases h
 rename_i h3;split at h
 ·cases h
 rename_i h4;exact ⟨aq h1,aq h2,aq h3,aq h4⟩
def Rf {l:List eM} {i:Nat} {c:eM} (hc:l[i]?= some c) (h:ma l i=0):xh c.name=true:=by
 unfold ma at h;rw [hc] at h;dsimp only at h;split at h
 ·cases h
 rename_i h1;simpa using h1
def RN:xh []=false:=by decide
def S0 {s:Sna} (h:vj s=true) {r:iE} (hr:r ∈ s.rules):0<=r.zi∧r.zi < s.zk.length:=by
 have h:(qN (iB s)).1=0:=by unfold vj at h;simpa using h
 obtain ⟨_,_,h3,h4⟩:=Iy h;obtain ⟨i,hi⟩:=gm.1 hr;have hi':(iB s).zP[i]?= some (nF s r):=by unfold iB;simp only [dP,hi,dX]
 have hz:=Ck h4 i (dL.1 hi').1;obtain ⟨_,_,_,hn⟩:=JY hi' hz;have hn:s.zk.any (fun c=>c.name == vw s.zk r.zi)=true:=hn;by_cases hb:0<=r.zi∧r.zi < s.zk.length
 ·exact hb
 ·unfold vw at hn;rw [dN hb] at hn;obtain ⟨c,hc,he⟩:=pH.1 hn;obtain ⟨j,hj⟩:=gm.1 hc;have:=Rf hj (Ck h3 j (dL.1 hj).1);rw [show c.name=[] from aq he,RN] at this;cases this
def KH {s:Sna} (h:vj s=true) (n hh p:u4):0<=(nW s n hh p).1∧∃ c,s.zk[(nW s n hh p).1.toNat]?= some c:=by
 have g:=(jx h).zk.1;have zero:∃ c,s.zk[(0:Int).toNat]?= some c:=⟨s.zk[0]'aw,dM aw⟩;unfold nW;split
 ·exact ⟨gk _,zero⟩
 ·split
  ·exact ⟨gk _,zero⟩
  ·split
   ·rename_i r hr;have:=S0 h (dO hr);exact ⟨this.1,s.zk[r.zi.toNat]'aw,dM aw⟩
   ·exact ⟨gk _,zero⟩
structure L9 (x:eM) (e:En):Prop where
 is:Slp.eu e=true
 len:(e.next.length:Int)=x.xL
structure mr (v:u3):Prop where
 snap:vj v.snap=true
 len:v.zm.length=v.snap.zk.length
 nO:∀ (i:Nat) g x,v.zm[i]?= some g->v.snap.zk[i]?= some x->g.ends.length=x.zL.length∧∀ e ∈ g.ends,L9 x e
def It {x:eM} {e:En}:nV x e=false↔L9 x e:=by
 unfold nV;constructor
 ·intro h;simp at h;exact ⟨h.1,h.2⟩
 ·rintro ⟨h1,h2⟩;simp [h1,h2]
def KT {v:u3}:l9 v=true↔mr v:=by
 unfold l9;simp only [dU,gh,dV,pG];constructor
 ·rintro ⟨⟨h1,h2⟩,h3⟩;refine ⟨h1,h2,fun i g x hg hx=>?_⟩;have:=h3 i (dL.1 hg).1;unfold oR at this;rw [hg,hx] at this;simp only [dU,gh,gX,gP] at this;exact ⟨this.1,fun e he=>It.1 (by simpa using this.2 e he)⟩
 ·rintro ⟨h1,h2,h3⟩;refine ⟨⟨h1,h2⟩,fun i hi=>?_⟩;unfold oR;split
  ·rename_i g x hg hx;obtain ⟨h4,h5⟩:=h3 i g x hg hx;simp only [dU,gh,gX,gP];exact ⟨h4,fun e he=>by simp [It.2 (h5 e he)]⟩
  ·rfl
structure jC (w:Wor):Prop where
 ground:jS w=true
 current:0<=w.current∧w.current < w.ze.length
 zr:Go.Lim.eu w.zr=true
 bad:∀ r ∈ w.zr,yx w r=false
 eJ:∀ (i:Nat) v,w.ze[i]?= some v->mr v∧v.qm=vv w.zr i
 ec:∀ (i:Nat) l,w.zd[i]?= some l->Go.Gat.eu l=true∧zS w.zd l.name=i
def qh {w:Wor}:xM w=true↔jC w:=by
 unfold xM;simp only [dU,gh,dV,pG,gX,gP];constructor
 ·rintro ⟨⟨⟨⟨⟨h1,h2⟩,h3⟩,h4⟩,h5⟩,h6⟩;refine ⟨h1,h2,h3,fun r hr=>by simpa using h4 r hr,fun i v hv=>?_,fun i l hl=>?_⟩
  ·have:=h5 i (dL.1 hv).1;unfold mT at this;rw [hv] at this;simp only [dU,gT] at this;exact ⟨KT.1 this.1,this.2⟩
  ·have:=h6 i (dL.1 hl).1;unfold wP at this;rw [hl] at this;simpa using this
 ·rintro ⟨h1,h2,h3,h4,h5,h6⟩;refine ⟨⟨⟨⟨⟨h1,h2⟩,h3⟩,fun r hr=>by simp [h4 r hr]⟩,fun i hi=>?_⟩,fun i hi=>?_⟩
  ·unfold mT;split
   ·rename_i v hv;obtain ⟨a,b⟩:=h5 i v hv;simp [KT.2 a,b]
   ·rfl
  ·unfold wP;split
   ·rename_i l hl;obtain ⟨a,b⟩:=h6 i l hl;simp [a,b]
   ·rfl
def mr.fO {v:u3} (h:mr v):v.zm.length<=4∧∀ g ∈ v.zm,g.ends.length<=4∧1<=g.ends.length∧∀ e ∈ g.ends,Slp.eu e=true∧e.next.length<=4∧1<=e.next.length:=by
 have gn:=jx h.snap;refine ⟨by have:=gn.zk.2;have:=h.len;omega,fun g hg=>?_⟩;obtain ⟨i,hi⟩:=gm.1 hg;have ux:=(dL.1 hi).1;obtain ⟨x,hx⟩:∃ x,v.snap.zk[i]?= some x:=⟨_,dM (by have:=h.len;omega)⟩;obtain ⟨h1,h2⟩:=h.nO i g x hi hx;have gx:=gn.all x (dO hx);refine ⟨by have:=gx.zL.2;omega,by have:=gx.zL.1;omega,fun e he=>?_⟩;have ge:=h2 e he;have gs:=gx.xL;exact ⟨ge.is,by have:=ge.len;omega,by have:=ge.len;omega⟩
structure MI (w:Wor):Prop where
 pins:1<=w.pins.length∧w.pins.length<=8
 counts:w.counts.length=w.pins.length∧∀ r ∈ w.counts,r.length=6
 zn:0<=w.zn∧w.zn<=1000000000000
 lock:w.lock=0∨w.lock=1
 lu:∀ p ∈ w.pins,0<=p∧p<=w.zn+1
def qa {w:Wor}:jS w=true↔MI w:=by
 unfold jS Aa;simp only [dU,pE,gh,dV,gX,gP,gT];constructor
 ·rintro ⟨⟨⟨⟨⟨⟨⟨h1,h2⟩,h3⟩,⟨h4,h5⟩,h6⟩,h7⟩,h8⟩,h9⟩,h10⟩;exact ⟨⟨h1,h2⟩,⟨h3,h4⟩,⟨h7,h8⟩,h9,fun p hp=>by have:=h10 p hp;simp [ns] at this;omega⟩
 ·rintro ⟨⟨h1,h2⟩,⟨h3,h4⟩,⟨h7,h8⟩,h9,h10⟩;exact ⟨⟨⟨⟨⟨⟨⟨h1,h2⟩,h3⟩,⟨h4,aw⟩,aw⟩,h7⟩,h8⟩,h9⟩,fun p hp=>by have:=h10 p hp;simp [ns];omega⟩
def Ap {N:Nat} {w:Wor} (h:jC w) (t:ig N w) (hN:N<=100000000):qX w:=by
 have g:=qa.1 h.ground;refine ⟨by have:=g.pins;omega,⟨by have:=t.iu;omega,fun v hv=>?_⟩,by have:=t.ec;omega,⟨bV,fun r hr=>by have:=g.counts.2 r hr;omega⟩,by have:=t.fQ;omega⟩;obtain ⟨i,hi⟩:=gm.1 hv;have f:=(h.eJ i v hi).1.fO;exact ⟨aw,fun g hg=>⟨by have:=(f.2 g hg).1;omega,fun e he=>by have:=((f.2 g hg).2.2 e he).2;omega⟩⟩
def n8 {N:Nat} {w:Wor} (h:jC w) (t:ig N w) (hN:N<=100000000):fe w:=by
 have g:=qa.1 h.ground;refine ⟨by have:=g.pins;omega,⟨by have:=t.iu;omega,fun v hv=>?_⟩,⟨by have:=t.ec;omega,t.lq⟩,⟨bV,fun r hr=>by have:=g.counts.2 r hr;omega⟩,by have:=t.fQ;omega⟩;obtain ⟨i,hi⟩:=gm.1 hv;have f:=(h.eJ i v hi).1.fO;have o:=t.fL v hv;exact ⟨o.1,aw,fun g hg=>⟨by have:=(f.2 g hg).1;omega,(o.2 g hg).2⟩⟩
def LY {w:Wor} (h:jC w) {i:Nat} {v:u3} (hv:w.ze[i]?= some v):CJ v:=by
 have f:=(h.eJ i v hv).1.fO;exact ⟨aw,fun g hg=>by have:=(f.2 g hg).1;omega⟩
def VH {N:Nat} {w:Wor} {m:uw} (h:jC w) (t:ig N w) (tm:eU m) {i:Nat} {v:u3} (hv:w.ze[i]?= some v):Ex m v:=by
 have g:=(h.eJ i v hv).1;have o:=(t.fL v (dO hv)).1;refine ⟨⟨o.zd.1,o.rules.1,fun r hr=>o.rules.2 r hr⟩,tm.host,tm.path,tm.d0,tm.d1,fun _=>?_⟩;obtain ⟨h0,c,hc⟩:=KH g.snap m.op.listen m.op.host m.op.path;exact ⟨h0,c,hc,by have:=((jx g.snap).all c (dO hc)).zL.2;omega⟩
def Sx {w:Wor} (h:jC w) {t:Int} (h0:0<=t) (h1:t < w.pins.length):∃ r,w.counts[t.toNat]?= some r∧r.length=6:=by
 have g:=qa.1 h.ground;have ux:t.toNat < w.counts.length:=by have:=g.counts.1;omega
 exact ⟨_,dM ux,g.counts.2 _ (gQ ux)⟩
def yD {α:Type} (l:List α) (i:Nat) {x:α} (h:l[i]?= some x):l.set i x=l:=by
 obtain ⟨h1,rfl⟩:=dL.1 h;exact List.set_getElem_self h1
def Qi {w:Wor} {m:uw} {v:u3} {g:Gr} {e:En} (hat:fc w m v g e):wU w m v g e g.zt e.head e.zg=w:=by
 unfold wU xk yE qt;rw [yD g.ends _ hat.eL,yD v.zm _ hat.ey,yD w.ze _ hat.at_]
abbrev Ah (f:FuncId) (w:Wor) (m:uw) (r:Wor × uw × uz):Prop:=tn f [] [Cw w,Cm m] (.u1 [Cw r.1,Cm r.2.1,Ce r.2.2]) []
def Dd {w:Wor} {m:uw} {f:eE->Wor × uw × uz} {r:Wor × uw × uz} (h:iy w m f=some r):0<=m.listen∧∃ x,w.zd[m.listen.toNat]?= some x∧r=f x:=by
 unfold iy at h;split at h
 ·cases h
 obtain ⟨x,hx,rfl⟩:=gD.1 h;exact ⟨aw,x,hx,rfl⟩
def Iz {w:Wor} {m:uw} {k pc:Int} {r:Wor × uw × uz} (h:wW w m k pc=some r):∃ r0 x,w.counts[m.zf.toNat]?= some r0∧r0[k.toNat]?= some x∧
  r=({ w with counts:=w.counts.set m.zf.toNat (r0.set k.toNat (IntKind.u64.wrap (x+1))) },{ m with pc:=pc },ez m 3 10 k):=by
 unfold wW at h;split at h
 ·cases h
 split at h
 ·cases h
 rename_i r0 h1 _ x h2;exact ⟨r0,x,h1,h2,(dZ h).symm⟩
def qF.at_ {w:Wor} {m:uw} {v:u3} {g:Gr} {e:En} (su:qF w m v g e):fc w m v g e:=⟨⟨⟨su.version.1,su.eQ⟩,su.zi.1,su.ey⟩,su.end_.1,su.eL⟩
def QL (n:Int):0<=mW n∧mW n<=5:=by
 unfold mW;split <;> omega
section
variable {N:Nat} {w:Wor} {m:uw} {v:u3} {g:Gr} {e:En} {r:Wor × uw × uz}
def VC (su:qF w m v g e) (hs:zY w m=true) (t:ig N w) (tm:eU m) (hN:N<=100000000) (h3:m.pc < 3) (h:o3 w m=some r):Ah 96 w m r:=by
 have gw:=qh.1 su.world;have sw:=Ap gw t hN;have ok:=n8 gw t hN;unfold o3 at h;split at h
 ·rename_i hpc;cases h
  exact EV aw h3 (Qr w m sw ok tm.listen hpc hs)
 split at h
 ·rename_i hpc;cases h
  exact EV aw h3 (Qs w m sw ok tm.listen hpc hs)
 split at h
 ·rename_i hpc;cases h
  exact EV aw h3 (Qt w m sw ok tm.listen hpc hs)
 ·cases h
def OG (su:qF w m v g e) (hs:zY w m=true) (t:ig N w) (tm:eU m) (hN:N<=100000000) (h:qf w m v g e=some r):Ah 96 w m r:=by
 have gw:=qh.1 su.world;have sw:=Ap gw t hN;have ok:=n8 gw t hN;have hl:=tm.listen;have at_:=su.at_;have gv:=(gw.eJ _ v su.eQ).1;have oe:=(t.fL v (dO su.eQ)).2 g (dO su.ey);have okE:=oe.2 e (dO su.eL)
 have hne:e.next≠[]:=by
  intro h0;have:=su.slot;rw [h0] at this;exact cP
 unfold qf at h;by_cases h3:m.pc < 3
 ·rw [dQ h3] at h;exact VC su hs t tm hN h3 h
 rw [dN h3] at h;by_cases p:m.pc=3
 ·rw [dQ p] at h;cases h
  exact TE sw ok hl p hs (M4 w m (by have:=t.ec;omega))
 rw [dN p] at h
 clear p
 by_cases p:m.pc=4
 ·rw [dQ p] at h;obtain ⟨l0,x,hx,rfl⟩:=Dd h;exact TF sw ok hl p hs l0 aj (OB w m x l0 hx)
 rw [dN p] at h
 clear p
 by_cases p:m.pc=5
 ·rw [dQ p] at h;obtain ⟨l0,x,hx,rfl⟩:=Dd h;exact TG sw ok hl p hs l0 (Np w m v at_.tomN (VH gw t tm su.eQ) l0 hx)
 rw [dN p] at h
 clear p
 by_cases p:m.pc=6
 ·rw [dQ p] at h;obtain ⟨c,hc,rfl⟩:=gD.1 h;exact TH sw ok hl p hs at_ hne (OO w m v g e c at_.ln hc oe.1 (by have:=((jx gv.snap).all c (dO hc)).zL.2;omega))
 rw [dN p] at h
 clear p
 by_cases p:m.pc=7
 ·rw [dQ p] at h;cases h
  exact TJ sw ok hl p hs (M3 w m v g e at_)
 rw [dN p] at h
 clear p
 by_cases p:m.pc=8
 ·rw [dQ p] at h;obtain ⟨e2,he2,rfl⟩:=gD.1 h;exact TK sw ok hl p hs (M5 w m v g e2 at_.toBz su.other.1 he2)
 rw [dN p] at h
 clear p
 by_cases p:m.pc=9
 ·rw [dQ p] at h;by_cases q:0<=zC e.head∧zC e.head < e.next.length
  ·rw [dQ q] at h;cases h
   exact KJ sw ok hl p hs (Nu w m v g e at_ okE.1 q)
  ·rw [dN q] at h;cases h
   exact KJ sw ok hl p hs (Na w m v g e at_ okE.1 q)
 rw [dN p] at h
 clear p
 by_cases p:m.pc=10
 ·rw [dQ p] at h;obtain ⟨x,hx,rfl⟩:=gD.1 h;exact Sc sw ok hl p hs (Nv w m v g e at_ su.slot.1 hx)
 rw [dN p] at h
 clear p
 by_cases p:m.pc=11
 ·rw [dQ p] at h;by_cases q:e.head=m.word
  ·rw [dQ q] at h;cases h
   exact JL sw ok hl p hs at_ hne (Nh w m v g e at_.ln tm.word tm.link.1 tm.link.2 q)
  ·rw [dN q] at h;cases h
   have:=JL sw ok hl p hs at_ hne (Nl w m v g e at_.ln tm.word tm.link.1 tm.link.2 okE.1 q)
   rwa [Qi at_] at this
 rw [dN p] at h
 clear p
 by_cases p:m.pc=12
 ·rw [dQ p] at h;cases h
  exact Sd sw ok hl p hs at_ hne (NZ w m v g e at_.ln)
 rw [dN p] at h
 clear p
 by_cases p:m.pc=20
 ·rw [dQ p] at h;obtain ⟨r0,x,hr,hx,rfl⟩:=Iz h;exact Sf sw ok hl p hs su.zf.1 hr (by rintro rfl;simp at hx) aj (Nm w m r0 x _ rfl su.zf.1 hr hx)
 rw [dN p] at h
 clear p
 by_cases p:m.pc=21
 ·rw [dQ p] at h;obtain ⟨r0,x,hr,hx,rfl⟩:=Iz h;exact Sg sw ok hl p hs su.zf.1 hr (by rintro rfl;simp at hx) aj (NA w m r0 x su.zf.1 hr hx)
 rw [dN p] at h
 clear p
 by_cases p:m.pc=22
 ·rw [dQ p] at h;obtain ⟨l0,x,hx,rfl⟩:=Dd h;exact Sh sw ok hl p hs l0 aj (Ox w m x l0 hx)
 rw [dN p] at h
 clear p
 by_cases p:m.pc=23
 ·rw [dQ p] at h;cases h
  exact Si sw ok hl p hs (OT w m sw ok hl hs)
 rw [dN p] at h;cases h
def OC (su:qF w m v g e) (hs:zY w m=true) (t:ig N w) (tm:eU m) (hN:N<=100000000) (h:yp w m v g e=some r):Ah 97 w m r:=by
 have gw:=qh.1 su.world;have sw:=Ap gw t hN;have ok:=n8 gw t hN;have hl:=tm.listen;have at_:=su.at_;have gv:=(gw.eJ _ v su.eQ).1;have oe:=(t.fL v (dO su.eQ)).2 g (dO su.ey);have okE:=oe.2 e (dO su.eL);have ln:=((gv.fO.2 g (dO su.ey)).2.2 e (dO su.eL)).2
 have hne:e.next≠[]:=by
  intro h0;rw [h0] at ln;simp at ln
 have sl:=su.slot;unfold yp at h;by_cases p:m.pc=0
 ·rw [dQ p] at h;cases h
  exact PF w m v g e sw ok hl p hs at_ tm.word okE.1
 rw [dN p] at h
 clear p
 by_cases p:m.pc=1
 ·rw [dQ p] at h;cases h
  exact PG w m v g e sw ok hl p hs at_ hne tm.word okE.1 sl.1 aw rfl rfl rfl
 rw [dN p] at h
 clear p
 by_cases p:m.pc=2
 ·rw [dQ p] at h;by_cases q:e.head=m.word
  ·rw [dQ q] at h;cases h
   exact PH w m v g e sw ok hl p hs at_ hne tm.word okE.1 q aw aw rfl rfl rfl
  ·rw [dN q] at h;cases h
   exact Ou w m v g e sw ok hl p hs at_ tm.word okE.1 q
 rw [dN p] at h
 clear p
 by_cases p:m.pc=3
 ·rw [dQ p] at h;cases h
  exact PI w m v g e sw ok hl p hs at_ hne tm.word okE.1 rfl rfl rfl
 rw [dN p] at h
 clear p
 by_cases p:m.pc=4
 ·rw [dQ p] at h;obtain ⟨l0,x,hx,rfl⟩:=Dd h;exact PJ w m v g e x sw ok hl p hs at_ tm.word okE.1 l0 hx
 rw [dN p] at h
 clear p
 by_cases p:m.pc=9
 ·rw [dQ p] at h;cases h
  exact PK w m v g e sw ok hl p hs at_ tm.word okE.1
 rw [dN p] at h;cases h
end
section
variable {N:Nat} {w:Wor} {m:uw} {v:u3} {g:Gr} {e:En} {r:Wor × uw × uz}
def Ss {l:List u4} {s:u4} (h:l.any (fun x=>x == s)=true):kB l (yP l s)=s:=by
 unfold yP;cases hf:l.findIdx? (fun x=>x == s) with
 | none=>
  rw [gC] at hf;obtain ⟨x,hx,he⟩:=pH.1 h;rw [hf x hx] at he;cases he
 | some i=>
  obtain ⟨h1,h2,_⟩:=gy.1 hf;show kB l ((i:Nat):Int)=s;unfold kB;rw [dQ ⟨aw,aq h1⟩];simp only [ug,dM h1,gY];simpa using h2
def Sq {l:List eM} {s:u4} (h:nT l s=true):vw l (nN l s)=s:=by
 unfold nT at h;unfold nN;cases hf:l.findIdx? (fun x=>x.name == s) with
 | none=>
  rw [gC] at hf;obtain ⟨x,hx,he⟩:=pH.1 h;rw [hf x hx] at he;cases he
 | some i=>
  obtain ⟨h1,h2,_⟩:=gy.1 hf;show vw l ((i:Nat):Int)=s;unfold vw;rw [dQ ⟨aw,aq h1⟩];simp only [ug,dM h1,dX,gY];simpa using h2
def Ra {c:eP} (h:(qN c).1=0):iB (jv c).1=c:=by
 obtain ⟨_,_,_,h4⟩:=Iy h;unfold jv;rw [dN aw];obtain ⟨ls,rs,cs⟩:=c;unfold iB;simp only [pX,eP.mk.injEq,sT,and_true];refine g9 fun i=>?_
 rw [dP];cases hi:rs[i]? with
 | none=>rfl
 | some r=>
  obtain ⟨a,_,_,b⟩:=JY (c:=⟨ls,rs,cs⟩) hi (Ck h4 i (dL.1 hi).1);simp only [dX,Function.comp,gu];unfold nF n4;dsimp only;rw [Ss a,Sq b]
def C4 {c:eP} (h:(qN c).1=0):vj (jv c).1=true:=by
 unfold vj;rw [Ra h,h]
 rfl
def Fw (c:eP):(jv c).2.1=(qN c).1:=by
 unfold jv;split
 ·rfl
 ·rename_i h;simpa using (Decidable.of_not_not h).symm
def km (c:eP):lQ c=(qN c).1:=by
 unfold lQ;rw [Fw];split
 ·rfl
 ·rename_i h;have h:(qN c).1=0:=Decidable.of_not_not h;unfold qO;rw [dQ (C4 h),h]
def J5 (su:qF w m v g e) (hs:zY w m=true) (t:ig N w) (tm:eU m) (hN:N<=100000000) (hk:m.op.kind=3) (h:y5 w m=some r):Ah 98 w m r:=by
 have gw:=qh.1 su.world;have sw:=Ap gw t hN;have ok:=n8 gw t hN;have hl:=tm.listen;unfold y5 at h;by_cases p:m.pc=0
 ·rw [dQ p] at h;by_cases q:lQ m.op.config=0
  ·rw [dQ q] at h;cases h
   exact O8 w m sw ok hl p hs (vO (tm.cfg hk) (by rw [<- km];exact q)) q
  ·rw [dN q] at h;cases h
   exact NF w m _ sw ok hl p hs (tm.cfg hk) (by rw [Fw,km]) q
 rw [dN p] at h
 clear p
 by_cases p:m.pc=1
 ·rw [dQ p] at h;cases h
  exact O9 w m sw ok hl p hs
 rw [dN p] at h
 clear p
 by_cases p:m.pc=2
 ·rw [dQ p] at h;cases q:wo w m
  ·rw [q] at h;cases h
   cases hx:w.zr with
   | nil=>have:=OJ w m sw ok hl p hs q hx;rwa [hx] at this
   | cons x l=>have:=Pa w m x l sw ok hl p hs q hx;rwa [hx] at this
  ·rw [q] at h;cases h
 rw [dN p] at h;cases h
def Qe (su:qF w m v g e) (hs:zY w m=true) (t:ig N w) (tm:eU m) (hN:N<=100000000) (h:wa w m=some r):Ah 99 w m r:=by
 have gw:=qh.1 su.world;have sw:=Ap gw t hN;have ok:=n8 gw t hN;have hl:=tm.listen;unfold wa at h;by_cases p:m.pc=0
 ·rw [dQ p] at h;by_cases q:zS w.zd m.op.listen < 0
  ·rw [dQ q] at h;cases h
   exact NO w m sw ok hl p hs q
  ·rw [dN q] at h;obtain ⟨x,hx,rfl⟩:=gD.1 h;exact NB w m x sw ok hl p hs aw hx
 rw [dN p] at h;cases h
def QG (su:qF w m v g e) (hs:zY w m=true) (t:ig N w) (tm:eU m) (hN:N<=100000000) (hk:m.op.kind=6) (h:vJ w m=some r):Ah 101 w m r:=by
 have gw:=qh.1 su.world;have sw:=Ap gw t hN;have ok:=n8 gw t hN;unfold vJ at h;split at h
 rotate_left
 ·cases h
 rename_i p;obtain ⟨rw_,h1,h2⟩:=gM.1 h;obtain ⟨n,h3,rfl⟩:=gD.1 h2;exact OY w m rw_ n sw ok tm.listen p.1 hs su.done ⟨su.i,h1,su.k,p.2,h3⟩ (tm.iF hk su.done)
def AN (gw:jC w) {i:Nat} {x:eC} (hx:w.zr[i]?= some x):0<=x.at_∧x.at_<=w.zn∧0<=x.version∧x.version < w.ze.length∧x.version≠w.current:=by
 have h1:=gw.bad x (dO hx);have h2:=gK (show decide (∀ i,(h:i < w.zr.length)->Go.Lim.fb w.zr i w.zr[i]=true)=true from gw.zr) i (dL.1 hx).1;rw [(dL.1 hx).2] at h2;unfold yx at h1;unfold Go.Lim.fb at h2;simp at h1 h2;omega
def LF (h0:0<=m.i):tn 131 [⟨1,37,8,[zJ w],0⟩,⟨1,69,44,[zD m],0⟩] [.agg tj] (Ce (mq w m).2.2) [⟨1,37,8,[zJ (mq w m).1],0⟩,⟨1,69,44,[zD (mq w m).2.1],0⟩]:=by
 unfold mq;cases hx:w.zd[m.i.toNat]? with
 | none=>exact MY w m (by have:=pK.1 hx;omega)
 | some l=>exact M9 w m l h0 hx
def Om (su:qF w m v g e) (hs:zY w m=true) (t:ig N w) (tm:eU m) (hN:N<=100000000) (h:yu w m=some r):Ah 100 w m r:=by
 have gw:=qh.1 su.world;have sw:=Ap gw t hN;have ok:=n8 gw t hN;have hl:=tm.listen;have av:=su.at_.tomN;unfold yu at h;by_cases p:m.pc=0
 ·rw [dQ p] at h;by_cases q:w.lock=0
  ·rw [dQ q] at h;cases h
   (exact jG sw ok hl hs (xu w m aw) 0 _ rfl (fun _ _ _ _ _ _ _ _ _ _=>by rw [p];rfl) rfl (NX w m q))
  ·rw [dN q] at h;cases h
   (exact jG sw ok hl hs (xu w m aw) 0 _ rfl (fun _ _ _ _ _ _ _ _ _ _=>by rw [p];rfl) rfl (N7 w m q))
 rw [dN p] at h
 clear p
 by_cases p:m.pc=1
 ·rw [dQ p] at h;cases h
  (exact jG sw ok hl hs (xu w m aw) 1 _ rfl (fun _ _ _ _ _ _ _ _ _ _=>by rw [p];rfl) rfl (Go.Wor.Nq w m))
 rw [dN p] at h
 clear p
 by_cases p:m.pc=2
 ·rw [dQ p] at h;obtain ⟨x,hx,rfl⟩:=gD.1 h;have ux:=(dL.1 hx).1;have si:=su.i;exact jG sw ok hl hs (QS w m p aw) 2 _ rfl (fun _ _ _ _ _ _ _ _ _ _=>by rw [p];rfl) rfl (NW w m x su.i hx)
 rw [dN p] at h
 clear p
 by_cases p:m.pc=3
 ·rw [dQ p] at h;by_cases q:w.zn=m.zn∧w.zn < 1000000000000
  ·rw [dQ q] at h;cases h
   (exact jG sw ok hl hs (xu w m aw) 3 _ rfl (fun _ _ _ _ _ _ _ _ _ _=>by rw [p];rfl) rfl (M6 w m q.1 q.2))
  ·rw [dN q] at h;cases h
   (exact jG sw ok hl hs (xu w m aw) 3 _ rfl (fun _ _ _ _ _ _ _ _ _ _=>by rw [p];rfl) rfl (Ng w m q))
 rw [dN p] at h
 clear p
 by_cases p:m.pc=4
 ·rw [dQ p] at h;cases hx:w.zr[m.i.toNat]? with
  | none=>
   rw [hx] at h;cases h
   (exact jG sw ok hl hs (xu w m aw) 4 _ rfl (fun _ _ _ _ _ _ _ _ _ _=>by rw [p];rfl) rfl (MZ (by have:=pK.1 hx;have:=su.i;omega) (LF (m:=fD m 8 0) (gk _))))
  | some x=>
   rw [hx] at h;cases h
   have la:=AN gw hx;have ge:=(qa.1 gw.ground).zn
   (exact jG sw ok hl hs (xu w m aw) 4 _ rfl (fun _ _ _ _ _ _ _ _ _ _=>by rw [p];rfl) rfl (Nr w m x ⟨aw,aw⟩ su.i hx))
 rw [dN p] at h
 clear p
 by_cases p:m.pc=5
 ·rw [dQ p] at h;obtain ⟨v',hv',h⟩:=gM.1 h;obtain ⟨x,hx,rfl⟩:=gD.1 h;have ux:=(dL.1 hx).1;have sk:=su.k;exact jG sw ok hl hs (QT w m v' (LY gw hv') p ⟨su.version.1,hv'⟩ aw) 5 _ rfl (fun _ _ _ _ _ _ _ _ _ _=>by rw [p];rfl) rfl (M8 w m v' x (LY gw hv') ⟨su.version.1,hv'⟩ su.k hx)
 rw [dN p] at h
 clear p
 by_cases p:m.pc=6
 ·rw [dQ p] at h;obtain ⟨v',hv',h⟩:=gM.1 h;obtain ⟨x,hx,h⟩:=gM.1 h;split at h
  rotate_left
  ·cases h
  rename_i q;cases h
  exact Oo sw ok hl hs (QU w m x p su.i hx q.1 q.2) 6 _ rfl (fun _ _ _ _ _ _ _ _ _ _=>by rw [p];rfl) rfl (by rintro h0;rw [h0] at hv';simp at hv') (by rintro h0;rw [h0] at hx;simp at hx) aj aj (C7 w m v' x ⟨su.version.1,hv'⟩ su.i hx)
 rw [dN p] at h
 clear p
 by_cases p:m.pc=8
 ·rw [dQ p] at h;cases h
  (exact jG sw ok hl hs (xu w m aw) 7 _ rfl (fun _ _ _ _ _ _ _ _ _ _=>by rw [p];rfl) rfl (LF su.i))
 rw [dN p] at h
 clear p
 by_cases p:m.pc=9
 ·rw [dQ p] at h;obtain ⟨x,hx,rfl⟩:=gD.1 h;have ux:=(dL.1 hx).1;have si:=su.i;exact jG sw ok hl hs (QV w m p aw) 8 _ rfl (fun _ _ _ _ _ _ _ _ _ _=>by rw [p];rfl) rfl (Nb w m x su.i hx)
 rw [dN p] at h
 clear p
 by_cases p:m.pc=10
 ·rw [dQ p] at h;obtain ⟨x,hx,h⟩:=gM.1 h;split at h
  rotate_left
  ·cases h
  rename_i q;cases h
  exact Oq sw ok hl hs (Pf w m x p su.i hx q) 9 _ rfl (fun _ _ _ _ _ _ _ _ _ _=>by rw [p];rfl) rfl (by rintro h0;rw [h0] at hx;simp at hx) aj (QE w m x su.i hx)
 rw [dN p] at h;cases h
end
end Go.Wor
namespace Go.Wor
open Go.Ab Go.Proofs Tryz Go.Gat Go.Nam Go.Hos Go.Con Go.Sna Go.Pla
open Go.Hy hiding encI
abbrev T5 (w:Wor) (m:uw) (r:Wor × uw × uz):Prop:=tn 47 [] [Sw w,Sm m] (Sr r.1 r.2.1 r.2.2) []
def Qu {N:Nat} {w:Wor} {m:uw} {r:Wor × uw × uz} (hs:zY w m=true) (t:ig N w) (tm:eU m) (hN:N<=100000000) (h:kC w m=some r):T5 w m r:=by
 obtain ⟨v,g,e,su⟩:=y3 hs;unfold kC at h;rw [su.eQ] at h;dsimp only at h;rw [su.ey] at h;dsimp only at h;rw [su.eL] at h;dsimp only at h;by_cases k:m.op.kind=1
 ·rw [dQ k] at h;exact OZ k (OG su hs t tm hN h)
 rw [dN k] at h
 clear k
 by_cases k:m.op.kind=2
 ·rw [dQ k] at h;exact O3 k (OC su hs t tm hN h)
 rw [dN k] at h
 clear k
 by_cases k:m.op.kind=3
 ·rw [dQ k] at h;exact EN k (J5 su hs t tm hN k h)
 rw [dN k] at h
 clear k
 by_cases k:m.op.kind=4
 ·rw [dQ k] at h;exact O4 k (Qe su hs t tm hN h)
 rw [dN k] at h
 clear k
 by_cases k:m.op.kind=5
 ·rw [dQ k] at h;exact O5 k (Om su hs t tm hN h)
 rw [dN k] at h
 clear k
 by_cases k:m.op.kind=6
 ·rw [dQ k] at h;exact O6 k (QG su hs t tm hN k h)
 rw [dN k] at h;cases h
end Go.Wor
