import Derived.Test.YtkbnjgogjccmfaaGreatRY
import Derived.Test.YtkbnjgogjccmfaaGreatRG
import Derived.Test.YtkbnjgogjccmfaaGreatRH
import Derived.Test.YtkbnjgogjccmfaaGreatRZ
set_option linter.all false
set_option maxRecDepth 100000
set_option maxHeartbeats 4000000
namespace Go.Wor
open Go.Ab Go.Proofs Tryz Go.Hy Go.Gat Go.Nam Go.Hos Go.Con Go.Sna
def M7 (w:Wor) (m:uk) (v:uq) (g:Gr) (e:En) (sw:qV w) (ok:eR w) (hl:i64 m.listen) (hpc:m.pc=2) (hs:zY w m=true) (hat:eQ w m v g e) (hw:u64 m.word) (hh:u64 e.head) (hne:e.head≠m.word):
  tn 97 [] [Cw w,Cm m] (.uo [Cw w,Cm { m with pc:=0 },Ce (eX m v 5 8 (e.head % 4294967296 - 1))]) []:=by
 have a0:=hat.v0;have a1:=hat.tomr.row;have b0:=hat.g0;have b1:(v.zm.map zE)[m.zg.toNat]?= some (zE g):=by rw [dN,hat.u9];rfl
 have c0:=hat.e0;have c1:(g.ends.map zx)[m.end_.toNat]?= some (zx e):=by rw [dN,hat.eE];rfl
 refine ab func97 ?_;(repeat (first | refine uA ?_ | refine uB ?_))
 refine ah (zO w m ok hl) ?_;refine ⟨fun _=>dd ?_,fun h=>absurd ((hs).symm.trans h:true=false) ar⟩;(repeat (first | refine uA ?_ | refine uB ?_))
 refine tc ?_
 refine ah (qt w sw) ?_;refine uE ?_;(refine ⟨a0,_,a1,dd ?_⟩)
 (refine ⟨b0,_,b1,dd ?_⟩)
 (refine ⟨c0,_,c1,dd ?_⟩)
 refine ah (Slp.qE m.word hw) ?_;refine .inr ⟨⟨[0,1,5,6,7],[0,1],true⟩,au,fun _=>rfl,_,uH ?_,fun t2 H2 h=>h⟩;refine ⟨_,ai [] (Slp.qE e.head hh),uH ?_⟩;refine ⟨_,ai [] (yH w m v hat.tomr 1 8 (e.head % 4294967296 - 1)),uH ?_⟩;(refine ⟨uH ?_,trivial⟩);refine hZ ?_
 (refine ⟨uH ?_,trivial⟩);refine hZ ?_
 (refine ⟨_,_,.refl _,uH ?_⟩)
 (repeat (first | refine uA ?_ | refine uB ?_))
 refine uE ?_;refine ⟨fun _=>dd ?_,fun h=>absurd h (aq hne)⟩;refine wc.go rfl (uH ?_);refine .inl ⟨⟨false,[0,1,2],[5,1,6],[]⟩,au,uH ?_⟩;refine hZ ?_
 exact uI
def Mb (w:Wor) (m:uk) (v:uq) (g:Gr) (e:En) (hv:eQ w m v g e) (he:u64 e.head) (hi:¬(0<=e.head % 4294967296 - 1∧e.head % 4294967296 - 1 < e.next.length)):
  tn 147 [⟨1,37,8,[zJ w],0⟩,⟨1,69,44,[zD (m)],0⟩] [.agg tj] (Ce (eX m v 1 8 (e.head % 4294967296 - 1))) [⟨1,37,8,[zJ w],0⟩,⟨1,69,44,[zD (wN { m with word:=e.head } 4)],0⟩]:=by
 have ml:(e.next.map Go.Hy.encI).length=e.next.length:=dP ..;refine aa func147 ?_;refine CY [0,1] (km w m v g e hv) rfl rfl rfl rfl rfl rfl (dd ?_);refine ah (Slp.qE e.head he) ?_;refine ⟨fun q1=>?_,fun q1=>?_⟩
 ·refine dd ?_;refine tc ?_
  refine af [1] (vm { m with word:=e.head } 4) ?_;refine af [0,1] (kz w (wN { m with word:=e.head } 4) v ⟨hv.v0,hv.at_⟩ 1 8 (e.head % 4294967296 - 1)) ?_;exact cG
 ·refine dd ?_;refine CY [0,1] (km w { m with word:=e.head } v g e ⟨⟨⟨hv.v0,hv.at_⟩,hv.g0,hv.u9⟩,hv.e0,hv.eE⟩) rfl rfl rfl rfl rfl rfl (dd ?_);rw [ml];refine ⟨fun q2=>?_,fun q2=>?_⟩
  ·refine dd ?_;refine tc ?_
   refine af [1] (vm { m with word:=e.head } 4) ?_;refine af [0,1] (kz w (wN { m with word:=e.head } 4) v ⟨hv.v0,hv.at_⟩ 1 8 (e.head % 4294967296 - 1)) ?_;exact cG
  ·exact absurd ⟨bS,by simp at q2;omega⟩ hi
abbrev mu:=Option (Wor × uk × uv)
def o9 (w:Wor) (m:uk):mu:=
 if m.pc=0 then some (w,{ m with zn:=w.zn,pc:=1 },nd m (nq w.zn))
 else if m.pc=1 then some (mL w m.zj.toNat (IntKind.i64.wrap (m.zn+1)),{ m with pc:=2 },nd m ⟨0,0,2,2,0,false,IntKind.i64.wrap (m.zn+1),false,false,false,wu⟩)
 else if m.pc=2 then some (w,{ m with zn:=w.zn,pc:=if w.zn=m.zn then 3 else 1 },nd m (nq w.zn))
 else none
abbrev Lg (x:ec):ec:={ x with zf:=IntKind.i64.wrap (x.zf+1) }
abbrev zC (x:Int):Int:=x % 4294967296 - 1
abbrev Ao (m:uk):u3:=⟨1,m.version,m.zg,m.end_,m.slot,m.listen,0,⟨0,0,0,0,0,0⟩⟩
def n6 (w:Wor) (m:uk) (k pc:Int):mu:=match w.counts[m.zj.toNat]? with
 | none=>none
 | some r0=>match r0[k.toNat]? with
  | none=>none
  | some x=>some ({ w with counts:=w.counts.set m.zj.toNat (r0.set k.toNat (IntKind.u64.wrap (x+1))) },{ m with pc:=pc },u6 m 3 10 k)
def lD (w:Wor) (m:uk) (f:ec->Wor × uk × uv):mu:=if m.listen < 0 then none else (w.zd[m.listen.toNat]?).map f
def qf (w:Wor) (m:uk) (v:uq) (g:Gr) (e:En):mu:=
 if m.pc < 3 then o9 w m
 else if m.pc=3 then some (w,if zT w.zd m.op.listen < 0 then wN (Ae w m) 2 else Ae w m,GS (u6 m 1 3 w.current))
 else if m.pc=4 then lD w m fun x=>({ w with zd:=w.zd.set m.listen.toNat (Lg x) },{ m with pc:=5 },u6 m 3 5 (IntKind.i64.wrap (x.zf+1)))
 else if m.pc=5 then lD w m fun l=>(w,if l.drain then wN m 5 else yn m v,if l.drain then { u6 m 1 4 1 with qP:=true } else u6 m 1 4 0)
 else if m.pc=6 then (v.snap.zk[m.zg.toNat]?).map fun c=>(wz w m v g e (IntKind.u64.wrap (g.zt+1)) e.head e.zf,CT m c g.zt,eX m v 3 6 (IntKind.i64.wrap g.zt))
 else if m.pc=7 then some (w,{ m with i:=e.zf,pc:=8 },eX m v 1 7 e.zf)
 else if m.pc=8 then (g.ends[m.other.toNat]?).map fun e2=>(w,{ m with end_:=if e2.zf < m.i then m.other else m.end_,pc:=9 },eX m v 1 7 e2.zf)
 else if m.pc=9 then some (w,if 0<=zC e.head∧zC e.head < e.next.length then { m with word:=e.head,slot:=zC e.head,pc:=10 } else wN { m with word:=e.head } 4,eX m v 1 8 (zC e.head))
 else if m.pc=10 then (e.next[m.slot.toNat]?).map fun x=>(w,{ m with link:=x,pc:=11 },eX m v 1 9 x)
 else if m.pc=11 then (if e.head=m.word then some (wz w m v g e g.zt (Slp.qT m.word m.link) e.zf,{ m with pc:=12 },eX m v 4 8 m.slot) else some (w,{ m with pc:=9 },eX m v 5 8 (zC e.head)))
 else if m.pc=12 then some (wz w m v g e g.zt e.head (IntKind.i64.wrap (e.zf+1)),{ m with answer:=Ao m,pc:=20 },eX m v 3 7 (IntKind.i64.wrap (e.zf+1)))
 else if m.pc=20 then n6 w m (nM m.answer.kind) 21
 else if m.pc=21 then n6 w m 0 (if m.answer.kind=1∨m.listen < 0 then 23 else 22)
 else if m.pc=22 then lD w m fun x=>({ w with zd:=w.zd.set m.listen.toNat (ot x) },{ m with pc:=23 },u6 m 3 5 (IntKind.i64.wrap (x.zf - 1)))
 else if m.pc=23 then some (mL w m.zj.toNat 0,{ m with done:=true },{ B1 m with done:=true,answer:=m.answer })
 else none
def yB (w:Wor) (m:uk) (v:uq) (g:Gr) (e:En):mu:=
 if m.pc=0 then some (w,{ m with word:=e.head,pc:=1 },eX m v 1 8 (zC e.head))
 else if m.pc=1 then some (wz w m v g (yU m e) g.zt e.head e.zf,{ m with pc:=2 },eX m v 2 9 (zC m.word))
 else if m.pc=2 then (if e.head=m.word then some (wz w m v g e g.zt (Slp.qT m.word m.slot) e.zf,{ m with pc:=3 },{ eX m v 4 8 m.slot with qP:=true }) else some (w,{ m with pc:=0 },eX m v 5 8 (zC e.head)))
 else if m.pc=3 then some (wz w m v g e g.zt e.head (IntKind.i64.wrap (e.zf - 1)),{ m with pc:=4 },eX m v 3 7 (IntKind.i64.wrap (e.zf - 1)))
 else if m.pc=4 then lD w m fun x=>({ w with zd:=w.zd.set m.listen.toNat (ot x) },{ m with answer:=Gb m,done:=true },K9 m x)
 else if m.pc=9 then some (w,{ m with answer:=ib 7,done:=true },Lh m)
 else none
def vg (w:Wor) (m:uk):mu:=
 if m.pc=0 then (if lu m.op.config=0 then some ({ w with current:=w.ze.length,ze:=w.ze++[yN m.op.config] },iE m w.current w.ze.length,{ u6 m 6 3 w.ze.length with qP:=true })
  else some (w,{ m with done:=true,answer:=nZ (lu m.op.config) },{ u6 m 1 3 w.current with qP:=true,done:=true,answer:=nZ (lu m.op.config) }))
 else if m.pc=1 then some (w,{ m with zn:=w.zn,pc:=2 },u6 m 1 1 w.zn)
 else if m.pc=2 then (if kR w m then none else some ({ w with zr:=w.zr++[⟨m.version,m.zn,false⟩] },{ m with done:=true,answer:=oC m },{ u6 m 2 11 m.version with done:=true,answer:=oC m }))
 else none
abbrev Lr (p:Int):u3:=⟨10,0,0,0,0,p,0,⟨0,0,0,0,0,0⟩⟩
def ny (w:Wor) (m:uk):mu:=
 if m.pc=0 then (if zT w.zd m.op.listen < 0 then some (w,{ m with done:=true,answer:=ib 7 },{ DN m with done:=true,answer:=ib 7 })
  else (w.zd[(zT w.zd m.op.listen).toNat]?).map fun x=>({ w with zd:=w.zd.set (zT w.zd m.op.listen).toNat (Go.Gat.wC x) },{ m with listen:=zT w.zd m.op.listen,done:=true,answer:=Lr (zT w.zd m.op.listen) },{ Gl m with done:=true,answer:=Lr (zT w.zd m.op.listen) }))
 else none
def mS (w:Wor) (m:uk):Wor × uk × uv:=match w.zd[m.i.toNat]? with
 | none=>({ w with lock:=0 },{ m with done:=true,answer:=B0 11 m.answer.n },{ u6 m 2 14 0 with done:=true,answer:=B0 11 m.answer.n })
 | some l=>(w,AV m l,DE m l)
def yR (w:Wor) (m:uk):mu:=
 if m.pc=0 then some (if w.lock=0 then ({ w with lock:=1 },{ m with pc:=1 },u6 m 4 14 1) else (w,{ m with done:=true,answer:=ib 12 },{ u6 m 5 14 1 with done:=true,answer:=ib 12 }))
 else if m.pc=1 then some (w,{ m with zn:=w.zn,pc:=2,i:=0 },u6 m 1 1 w.zn)
 else if m.pc=2 then (w.pins[m.i.toNat]?).map fun p=>(w,oG w m p,u6 m 1 2 p)
 else if m.pc=3 then some (if w.zn=m.zn∧w.zn < 1000000000000 then ({ w with zn:=IntKind.i64.wrap (w.zn+1) },{ fm m 4 0 with zn:=IntKind.i64.wrap (w.zn+1) },u6 m 4 1 (IntKind.i64.wrap (w.zn+1))) else (w,fm m 4 0,u6 m 5 1 w.zn))
 else if m.pc=4 then some (match w.zr[m.i.toNat]? with | none=>mS w (fm m 8 0) | some r=>(w,oF m r,u6 m 1 11 r.version))
 else if m.pc=5 then (w.ze[m.version.toNat]?).bind fun v=>((yd v)[m.k.toNat]?).map fun e=>(w,Ad m v e.zf,B5 m v e.zf)
 else if m.pc=6 then (w.ze[m.version.toNat]?).bind fun v=>(w.zr[m.i.toNat]?).bind fun r=>if r.version=m.version∧r.gone=false then
  some ({ w with ze:=w.ze.set m.version.toNat (nB v),zr:=w.zr.set m.i.toNat (kP r) },AU m,u6 m 2 12 m.version) else none
 else if m.pc=8 then some (mS w m)
 else if m.pc=9 then (w.zd[m.i.toNat]?).map fun l=>(w,if l.zf=0 then { m with pc:=10 } else fm m 8 (IntKind.i64.wrap (m.i+1)),u6 m 1 5 l.zf)
 else if m.pc=10 then (w.zd[m.i.toNat]?).bind fun l=>if l.drain then some ({ w with zd:=w.zd.set m.i.toNat (BM l) },fm m 8 (IntKind.i64.wrap (m.i+1)),u6 m 2 13 1) else none
 else none
def nu (w:Wor) (m:uk):mu:=
 if m.pc=0∧m.k < 6 then (w.counts[m.i.toNat]?).bind fun r=>(r[m.k.toNat]?).map fun n=>(w,jP w m n,AD w m n) else none
def lq (w:Wor) (m:uk):mu:=match w.ze[m.version.toNat]? with
 | none=>none
 | some v=>match v.zm[m.zg.toNat]? with
  | none=>none
  | some g=>match g.ends[m.end_.toNat]? with
   | none=>none
   | some e=>if m.op.kind=1 then qf w m v g e else if m.op.kind=2 then yB w m v g e else if m.op.kind=3 then vg w m else if m.op.kind=4 then ny w m
    else if m.op.kind=5 then yR w m else if m.op.kind=6 then nu w m else none
structure fZ (N:Nat) (w:Wor):Prop where
 fX:w.ze.length<=N
 uz:w.zd.length<=N
 fH:w.zr.length<=N
 fA:∀ v ∈ w.ze,wA v.snap∧∀ g ∈ v.zm,u64 g.zt∧∀ e ∈ g.ends,e.ok
 iS:∀ l ∈ w.zd,l.ok
structure eJ (m:uk):Prop where
 listen:i64 m.listen
 word:u64 m.word
 link: -1<=m.link∧m.link<=2147483646
 host:m.op.host.length < 1000000000000
 path:m.op.path.length < 1000000000000
 d0:i64 m.op.d0
 d1:i64 m.op.d1
 cfg:m.op.kind=3->xp m.op.config
 iO:m.op.kind=6->m.done=false->m.answer=wu
def H7 {c:eG} (h:(q8 c).1=0):(ve c).1=0∧(jW (nO c.zd) c.zd.length).1=0∧(jW (lF c.zk) c.zk.length).1=0∧(jW (mN c) c.zQ.length).1=0:=by
 unfold q8 at h;split at h
 ·contradiction
 rename_i h1;split at h
 ·contradiction
 rename_i h2;split at h
 ·contradiction
 rename_i h3;split at h
 ·contradiction
 rename_i h4;exact ⟨aq h1,Decidable.of_not_not h2,Decidable.of_not_not h3,Decidable.of_not_not h4⟩
def Jp {c:eG} {i:Nat} {r:lf} (hr:c.zQ[i]?= some r) (h:mN c i=0):c.zd.any (fun x=>x == r.listen)=true∧mn r.host=true∧lY r.path=true∧ns c.zk r.zg=true:=by
 unfold mN at h;rw [hr] at h;dsimp only at h;split at h
 ·cases h
 rename_i h1;split at h
 ·cases h
 rename_i h2;split at h
 ·cases h
 rename_i h3;split at h
 ·cases h
 rename_i h4;exact ⟨aq h1,aq h2,aq h3,aq h4⟩
def QP {l:List eC} {i:Nat} {c:eC} (hc:l[i]?= some c) (h:lF l i=0):xv c.name=true:=by
 unfold lF at h;rw [hc] at h;dsimp only at h;split at h
 ·cases h
 rename_i h1;simpa using h1
def P6:xv []=false:=by decide
def Q8 {s:Sna} (h:yZ s=true) {r:iq} (hr:r ∈ s.rules):0<=r.zg∧r.zg < s.zk.length:=by
 have h:(q8 (ic s)).1=0:=by unfold yZ at h;simpa using h
 obtain ⟨_,_,h3,h4⟩:=H7 h;obtain ⟨i,hi⟩:=gh.1 hr;have hi':(ic s).zQ[i]?= some (nh s r):=by unfold ic;simp only [dN,hi,dV]
 have hz:=C8 h4 i (dJ.1 hi').1;obtain ⟨_,_,_,hn⟩:=Jp hi' hz;have hn:s.zk.any (fun c=>c.name == vd s.zk r.zg)=true:=hn;by_cases hb:0<=r.zg∧r.zg < s.zk.length
 ·exact hb
 ·unfold vd at hn;rw [dL hb] at hn;obtain ⟨c,hc,he⟩:=pI.1 hn;obtain ⟨j,hj⟩:=gh.1 hc;have:=QP hj (C8 h3 j (dJ.1 hj).1);rw [show c.name=[] from aq he,P6] at this;cases this
def JZ {s:Sna} (h:yZ s=true) (n hh p:uu):0<=(nA s n hh p).1∧∃ c,s.zk[(nA s n hh p).1.toNat]?= some c:=by
 have g:=(jq h).zk.1;have zero:∃ c,s.zk[(0:Int).toNat]?= some c:=⟨s.zk[0]'aw,dK aw⟩;unfold nA;split
 ·exact ⟨gd _,zero⟩
 ·split
  ·exact ⟨gd _,zero⟩
  ·split
   ·rename_i r hr;have:=Q8 h (dM hr);exact ⟨this.1,s.zk[r.zg.toNat]'aw,dK aw⟩
   ·exact ⟨gd _,zero⟩
structure K4 (x:eC) (e:En):Prop where
 is:Slp.u5 e=true
 len:(e.next.length:Int)=x.xB
structure lS (v:uq):Prop where
 snap:yZ v.snap=true
 len:v.zm.length=v.snap.zk.length
 np:∀ (i:Nat) g x,v.zm[i]?= some g->v.snap.zk[i]?= some x->g.ends.length=x.zL.length∧∀ e ∈ g.ends,K4 x e
def Hh {x:eC} {e:En}:nz x e=false↔K4 x e:=by
 unfold nz;constructor
 ·intro h;simp at h;exact ⟨h.1,h.2⟩
 ·rintro ⟨h1,h2⟩;simp [h1,h2]
def Ke {v:uq}:lK v=true↔lS v:=by
 unfold lK;simp only [dS,dZ,dT,pD];constructor
 ·rintro ⟨⟨h1,h2⟩,h3⟩;refine ⟨h1,h2,fun i g x hg hx=>?_⟩;have:=h3 i (dJ.1 hg).1;unfold oq at this;rw [hg,hx] at this;simp only [dS,dZ,gR,gI] at this;exact ⟨this.1,fun e he=>Hh.1 (by simpa using this.2 e he)⟩
 ·rintro ⟨h1,h2,h3⟩;refine ⟨⟨h1,h2⟩,fun i hi=>?_⟩;unfold oq;split
  ·rename_i g x hg hx;obtain ⟨h4,h5⟩:=h3 i g x hg hx;simp only [dS,dZ,gR,gI];exact ⟨h4,fun e he=>by simp [Hh.2 (h5 e he)]⟩
  ·rfl
structure jD (w:Wor):Prop where
 ground:jM w=true
 current:0<=w.current∧w.current < w.ze.length
 zr:Go.Lim.u5 w.zr=true
 bad:∀ r ∈ w.zr,yl w r=false
 eu:∀ (i:Nat) v,w.ze[i]?= some v->lS v∧v.qk=vc w.zr i
 uz:∀ (i:Nat) l,w.zd[i]?= some l->Go.Gat.u5 l=true∧zT w.zd l.name=i
def qi {w:Wor}:xC w=true↔jD w:=by
 unfold xC;simp only [dS,dZ,dT,pD,gR,gI];constructor
 ·rintro ⟨⟨⟨⟨⟨h1,h2⟩,h3⟩,h4⟩,h5⟩,h6⟩;refine ⟨h1,h2,h3,fun r hr=>by simpa using h4 r hr,fun i v hv=>?_,fun i l hl=>?_⟩
  ·have:=h5 i (dJ.1 hv).1;unfold mD at this;rw [hv] at this;simp only [dS,gM] at this;exact ⟨Ke.1 this.1,this.2⟩
  ·have:=h6 i (dJ.1 hl).1;unfold wo at this;rw [hl] at this;simpa using this
 ·rintro ⟨h1,h2,h3,h4,h5,h6⟩;refine ⟨⟨⟨⟨⟨h1,h2⟩,h3⟩,fun r hr=>by simp [h4 r hr]⟩,fun i hi=>?_⟩,fun i hi=>?_⟩
  ·unfold mD;split
   ·rename_i v hv;obtain ⟨a,b⟩:=h5 i v hv;simp [Ke.2 a,b]
   ·rfl
  ·unfold wo;split
   ·rename_i l hl;obtain ⟨a,b⟩:=h6 i l hl;simp [a,b]
   ·rfl
def lS.fE {v:uq} (h:lS v):v.zm.length<=4∧∀ g ∈ v.zm,g.ends.length<=4∧1<=g.ends.length∧∀ e ∈ g.ends,Slp.u5 e=true∧e.next.length<=4∧1<=e.next.length:=by
 have gn:=jq h.snap;refine ⟨by have:=gn.zk.2;have:=h.len;omega,fun g hg=>?_⟩;obtain ⟨i,hi⟩:=gh.1 hg;have uj:=(dJ.1 hi).1;obtain ⟨x,hx⟩:∃ x,v.snap.zk[i]?= some x:=⟨_,dK (by have:=h.len;omega)⟩;obtain ⟨h1,h2⟩:=h.np i g x hi hx;have gx:=gn.all x (dM hx);refine ⟨by have:=gx.zL.2;omega,by have:=gx.zL.1;omega,fun e he=>?_⟩;have ge:=h2 e he;have gs:=gx.xB;exact ⟨ge.is,by have:=ge.len;omega,by have:=ge.len;omega⟩
structure LC (w:Wor):Prop where
 pins:1<=w.pins.length∧w.pins.length<=8
 counts:w.counts.length=w.pins.length∧∀ r ∈ w.counts,r.length=6
 zn:0<=w.zn∧w.zn<=1000000000000
 lock:w.lock=0∨w.lock=1
 iT:∀ p ∈ w.pins,0<=p∧p<=w.zn+1
def qa {w:Wor}:jM w=true↔LC w:=by
 unfold jM oL;simp only [dS,pB,dZ,dT,gR,gI,gM];constructor
 ·rintro ⟨⟨⟨⟨⟨⟨⟨h1,h2⟩,h3⟩,⟨h4,h5⟩,h6⟩,h7⟩,h8⟩,h9⟩,h10⟩;exact ⟨⟨h1,h2⟩,⟨h3,h4⟩,⟨h7,h8⟩,h9,fun p hp=>by have:=h10 p hp;simp [wG] at this;omega⟩
 ·rintro ⟨⟨h1,h2⟩,⟨h3,h4⟩,⟨h7,h8⟩,h9,h10⟩;exact ⟨⟨⟨⟨⟨⟨⟨h1,h2⟩,h3⟩,⟨h4,aw⟩,aw⟩,h7⟩,h8⟩,h9⟩,fun p hp=>by have:=h10 p hp;simp [wG];omega⟩
def oZ {N:Nat} {w:Wor} (h:jD w) (t:fZ N w) (hN:N<=100000000):qV w:=by
 have g:=qa.1 h.ground;refine ⟨by have:=g.pins;omega,⟨by have:=t.fX;omega,fun v hv=>?_⟩,by have:=t.uz;omega,⟨bT,fun r hr=>by have:=g.counts.2 r hr;omega⟩,by have:=t.fH;omega⟩;obtain ⟨i,hi⟩:=gh.1 hv;have f:=(h.eu i v hi).1.fE;exact ⟨aw,fun g hg=>⟨by have:=(f.2 g hg).1;omega,fun e he=>by have:=((f.2 g hg).2.2 e he).2;omega⟩⟩
def ox {N:Nat} {w:Wor} (h:jD w) (t:fZ N w) (hN:N<=100000000):eR w:=by
 have g:=qa.1 h.ground;refine ⟨by have:=g.pins;omega,⟨by have:=t.fX;omega,fun v hv=>?_⟩,⟨by have:=t.uz;omega,t.iS⟩,⟨bT,fun r hr=>by have:=g.counts.2 r hr;omega⟩,by have:=t.fH;omega⟩;obtain ⟨i,hi⟩:=gh.1 hv;have f:=(h.eu i v hi).1.fE;have o:=t.fA v hv;exact ⟨o.1,aw,fun g hg=>⟨by have:=(f.2 g hg).1;omega,(o.2 g hg).2⟩⟩
def KQ {w:Wor} (h:jD w) {i:Nat} {v:uq} (hv:w.ze[i]?= some v):BX v:=by
 have f:=(h.eu i v hv).1.fE;exact ⟨aw,fun g hg=>by have:=(f.2 g hg).1;omega⟩
def Uo {N:Nat} {w:Wor} {m:uk} (h:jD w) (t:fZ N w) (tm:eJ m) {i:Nat} {v:uq} (hv:w.ze[i]?= some v):DK m v:=by
 have g:=(h.eu i v hv).1;have o:=(t.fA v (dM hv)).1;refine ⟨⟨o.zd.1,o.rules.1,fun r hr=>o.rules.2 r hr⟩,tm.host,tm.path,tm.d0,tm.d1,fun _=>?_⟩;obtain ⟨h0,c,hc⟩:=JZ g.snap m.op.listen m.op.host m.op.path;exact ⟨h0,c,hc,by have:=((jq g.snap).all c (dM hc)).zL.2;omega⟩
def Sd {w:Wor} (h:jD w) {t:Int} (h0:0<=t) (h1:t < w.pins.length):∃ r,w.counts[t.toNat]?= some r∧r.length=6:=by
 have g:=qa.1 h.ground;have uj:t.toNat < w.counts.length:=by have:=g.counts.1;omega
 exact ⟨_,dK uj,g.counts.2 _ (gH uj)⟩
def yp {α:Type} (l:List α) (i:Nat) {x:α} (h:l[i]?= some x):l.set i x=l:=by
 obtain ⟨h1,rfl⟩:=dJ.1 h;exact List.set_getElem_self h1
def PT {w:Wor} {m:uk} {v:uq} {g:Gr} {e:En} (hat:eQ w m v g e):wz w m v g e g.zt e.head e.zf=w:=by
 unfold wz j9 yq qq;rw [yp g.ends _ hat.eE,yp v.zm _ hat.u9,yp w.ze _ hat.at_]
abbrev oT (f:FuncId) (w:Wor) (m:uk) (r:Wor × uk × uv):Prop:=tn f [] [Cw w,Cm m] (.uo [Cw r.1,Cm r.2.1,Ce r.2.2]) []
def Cr {w:Wor} {m:uk} {f:ec->Wor × uk × uv} {r:Wor × uk × uv} (h:lD w m f=some r):0<=m.listen∧∃ x,w.zd[m.listen.toNat]?= some x∧r=f x:=by
 unfold lD at h;split at h
 ·cases h
 obtain ⟨x,hx,rfl⟩:=gJ.1 h;exact ⟨aw,x,hx,rfl⟩
def H8 {w:Wor} {m:uk} {k pc:Int} {r:Wor × uk × uv} (h:n6 w m k pc=some r):∃ r0 x,w.counts[m.zj.toNat]?= some r0∧r0[k.toNat]?= some x∧
  r=({ w with counts:=w.counts.set m.zj.toNat (r0.set k.toNat (IntKind.u64.wrap (x+1))) },{ m with pc:=pc },u6 m 3 10 k):=by
 unfold n6 at h;split at h
 ·cases h
 split at h
 ·cases h
 rename_i r0 h1 _ x h2;exact ⟨r0,x,h1,h2,(gm h).symm⟩
def qH.at_ {w:Wor} {m:uk} {v:uq} {g:Gr} {e:En} (su:qH w m v g e):eQ w m v g e:=⟨⟨⟨su.version.1,su.eF⟩,su.zg.1,su.u9⟩,su.end_.1,su.eE⟩
def PD (n:Int):0<=nM n∧nM n<=5:=by
 unfold nM;split <;> omega
section
variable {N:Nat} {w:Wor} {m:uk} {v:uq} {g:Gr} {e:En} {r:Wor × uk × uv}
def Ul (su:qH w m v g e) (hs:zY w m=true) (t:fZ N w) (tm:eJ m) (hN:N<=100000000) (h3:m.pc < 3) (h:o9 w m=some r):oT 96 w m r:=by
 have gw:=qi.1 su.world;have sw:=oZ gw t hN;have ok:=ox gw t hN;unfold o9 at h;split at h
 ·rename_i hpc;cases h
  exact Ek aw h3 (Ph w m sw ok tm.listen hpc hs)
 split at h
 ·rename_i hpc;cases h
  exact Ek aw h3 (Pj w m sw ok tm.listen hpc hs)
 split at h
 ·rename_i hpc;cases h
  exact Ek aw h3 (Pk w m sw ok tm.listen hpc hs)
 ·cases h
def N1 (su:qH w m v g e) (hs:zY w m=true) (t:fZ N w) (tm:eJ m) (hN:N<=100000000) (h:qf w m v g e=some r):oT 96 w m r:=by
 have gw:=qi.1 su.world;have sw:=oZ gw t hN;have ok:=ox gw t hN;have hl:=tm.listen;have at_:=su.at_;have gv:=(gw.eu _ v su.eF).1;have oe:=(t.fA v (dM su.eF)).2 g (dM su.u9);have okE:=oe.2 e (dM su.eE)
 have hne:e.next≠[]:=by
  intro h0;have:=su.slot;rw [h0] at this;exact cN
 unfold qf at h;by_cases h3:m.pc < 3
 ·rw [dO h3] at h;exact Ul su hs t tm hN h3 h
 rw [dL h3] at h;by_cases p:m.pc=3
 ·rw [dO p] at h;cases h
  exact Sv sw ok hl p hs (L7 w m (by have:=t.uz;omega))
 rw [dL p] at h
 clear p
 by_cases p:m.pc=4
 ·rw [dO p] at h;obtain ⟨l0,x,hx,rfl⟩:=Cr h;exact Sx sw ok hl p hs l0 aj (Ng w m x l0 hx)
 rw [dL p] at h
 clear p
 by_cases p:m.pc=5
 ·rw [dO p] at h;obtain ⟨l0,x,hx,rfl⟩:=Cr h;exact RP sw ok hl p hs l0 (Mm w m v at_.tomr (Uo gw t tm su.eF) l0 hx)
 rw [dL p] at h
 clear p
 by_cases p:m.pc=6
 ·rw [dO p] at h;obtain ⟨c,hc,rfl⟩:=gJ.1 h;exact RQ sw ok hl p hs at_ hne (Nn w m v g e c at_.ln hc oe.1 (by have:=((jq gv.snap).all c (dM hc)).zL.2;omega))
 rw [dL p] at h
 clear p
 by_cases p:m.pc=7
 ·rw [dO p] at h;cases h
  exact RR sw ok hl p hs (L6 w m v g e at_)
 rw [dL p] at h
 clear p
 by_cases p:m.pc=8
 ·rw [dO p] at h;obtain ⟨e2,he2,rfl⟩:=gJ.1 h;exact RS sw ok hl p hs (L8 w m v g e2 at_.toAS su.other.1 he2)
 rw [dL p] at h
 clear p
 by_cases p:m.pc=9
 ·rw [dO p] at h;by_cases q:0<=zC e.head∧zC e.head < e.next.length
  ·rw [dO q] at h;cases h
   exact J1 sw ok hl p hs (My w m v g e at_ okE.1 q)
  ·rw [dL q] at h;cases h
   exact J1 sw ok hl p hs (Mb w m v g e at_ okE.1 q)
 rw [dL p] at h
 clear p
 by_cases p:m.pc=10
 ·rw [dO p] at h;obtain ⟨x,hx,rfl⟩:=gJ.1 h;exact Qf sw ok hl p hs (Mz w m v g e at_ su.slot.1 hx)
 rw [dL p] at h
 clear p
 by_cases p:m.pc=11
 ·rw [dO p] at h;by_cases q:e.head=m.word
  ·rw [dO q] at h;cases h
   exact Jl sw ok hl p hs at_ hne (L5 w m v g e at_.ln tm.word tm.link.1 tm.link.2 q)
  ·rw [dL q] at h;cases h
   have:=Jl sw ok hl p hs at_ hne (Mj w m v g e at_.ln tm.word tm.link.1 tm.link.2 okE.1 q)
   rwa [PT at_] at this
 rw [dL p] at h
 clear p
 by_cases p:m.pc=12
 ·rw [dO p] at h;cases h
  exact Qg sw ok hl p hs at_ hne (M9 w m v g e at_.ln)
 rw [dL p] at h
 clear p
 by_cases p:m.pc=20
 ·rw [dO p] at h;obtain ⟨r0,x,hr,hx,rfl⟩:=H8 h;exact Qh sw ok hl p hs su.zj.1 hr (by rintro rfl;simp at hx) aj (Mk w m r0 x _ rfl su.zj.1 hr hx)
 rw [dL p] at h
 clear p
 by_cases p:m.pc=21
 ·rw [dO p] at h;obtain ⟨r0,x,hr,hx,rfl⟩:=H8 h;exact Qi sw ok hl p hs su.zj.1 hr (by rintro rfl;simp at hx) aj (Mi w m r0 x su.zj.1 hr hx)
 rw [dL p] at h
 clear p
 by_cases p:m.pc=22
 ·rw [dO p] at h;obtain ⟨l0,x,hx,rfl⟩:=Cr h;exact Qj sw ok hl p hs l0 aj (N5 w m x l0 hx)
 rw [dL p] at h
 clear p
 by_cases p:m.pc=23
 ·rw [dO p] at h;cases h
  exact Qk sw ok hl p hs (OH w m sw ok hl hs)
 rw [dL p] at h;cases h
def Nh (su:qH w m v g e) (hs:zY w m=true) (t:fZ N w) (tm:eJ m) (hN:N<=100000000) (h:yB w m v g e=some r):oT 97 w m r:=by
 have gw:=qi.1 su.world;have sw:=oZ gw t hN;have ok:=ox gw t hN;have hl:=tm.listen;have at_:=su.at_;have gv:=(gw.eu _ v su.eF).1;have oe:=(t.fA v (dM su.eF)).2 g (dM su.u9);have okE:=oe.2 e (dM su.eE);have ln:=((gv.fE.2 g (dM su.u9)).2.2 e (dM su.eE)).2
 have hne:e.next≠[]:=by
  intro h0;rw [h0] at ln;simp at ln
 have sl:=su.slot;unfold yB at h;by_cases p:m.pc=0
 ·rw [dO p] at h;cases h
  exact OC w m v g e sw ok hl p hs at_ tm.word okE.1
 rw [dL p] at h
 clear p
 by_cases p:m.pc=1
 ·rw [dO p] at h;cases h
  exact N9 w m v g e sw ok hl p hs at_ hne tm.word okE.1 sl.1 aw rfl rfl rfl
 rw [dL p] at h
 clear p
 by_cases p:m.pc=2
 ·rw [dO p] at h;by_cases q:e.head=m.word
  ·rw [dO q] at h;cases h
   exact Oa w m v g e sw ok hl p hs at_ hne tm.word okE.1 q aw aw rfl rfl rfl
  ·rw [dL q] at h;cases h
   exact M7 w m v g e sw ok hl p hs at_ tm.word okE.1 q
 rw [dL p] at h
 clear p
 by_cases p:m.pc=3
 ·rw [dO p] at h;cases h
  exact Oc w m v g e sw ok hl p hs at_ hne tm.word okE.1 rfl rfl rfl
 rw [dL p] at h
 clear p
 by_cases p:m.pc=4
 ·rw [dO p] at h;obtain ⟨l0,x,hx,rfl⟩:=Cr h;exact Od w m v g e x sw ok hl p hs at_ tm.word okE.1 l0 hx
 rw [dL p] at h
 clear p
 by_cases p:m.pc=9
 ·rw [dO p] at h;cases h
  exact Oe w m v g e sw ok hl p hs at_ tm.word okE.1
 rw [dL p] at h;cases h
end
section
variable {N:Nat} {w:Wor} {m:uk} {v:uq} {g:Gr} {e:En} {r:Wor × uk × uv}
def Qr {l:List uu} {s:uu} (h:l.any (fun x=>x == s)=true):vZ l (yE l s)=s:=by
 unfold yE;cases hf:l.findIdx? (fun x=>x == s) with
 | none=>
  rw [gy] at hf;obtain ⟨x,hx,he⟩:=pI.1 h;rw [hf x hx] at he;cases he
 | some i=>
  obtain ⟨h1,h2,_⟩:=gk.1 hf;show vZ l ((i:Nat):Int)=s;unfold vZ;rw [dO ⟨aw,aq h1⟩];simp only [tY,dK h1,gS];simpa using h2
def Qq {l:List eC} {s:uu} (h:ns l s=true):vd l (ng l s)=s:=by
 unfold ns at h;unfold ng;cases hf:l.findIdx? (fun x=>x.name == s) with
 | none=>
  rw [gy] at hf;obtain ⟨x,hx,he⟩:=pI.1 h;rw [hf x hx] at he;cases he
 | some i=>
  obtain ⟨h1,h2,_⟩:=gk.1 hf;show vd l ((i:Nat):Int)=s;unfold vd;rw [dO ⟨aw,aq h1⟩];simp only [tY,dK h1,dV,gS];simpa using h2
def QL {c:eG} (h:(q8 c).1=0):ic (jo c).1=c:=by
 obtain ⟨_,_,_,h4⟩:=H7 h;unfold jo;rw [dL aw];obtain ⟨ls,rs,cs⟩:=c;unfold ic;simp only [pT,eG.mk.injEq,sK,and_true];refine gU fun i=>?_
 rw [dN];cases hi:rs[i]? with
 | none=>rfl
 | some r=>
  obtain ⟨a,_,_,b⟩:=Jp (c:=⟨ls,rs,cs⟩) hi (C8 h4 i (dJ.1 hi).1);simp only [dV,Function.comp,gj];unfold nh nH;dsimp only;rw [Qr a,Qq b]
def Ef {c:eG} (h:(q8 c).1=0):yZ (jo c).1=true:=by
 unfold yZ;rw [QL h,h]
 rfl
def Et (c:eG):(jo c).2.1=(q8 c).1:=by
 unfold jo;split
 ·rfl
 ·rename_i h;simpa using (Decidable.of_not_not h).symm
def wy (c:eG):lu c=(q8 c).1:=by
 unfold lu;rw [Et];split
 ·rfl
 ·rename_i h;have h:(q8 c).1=0:=Decidable.of_not_not h;unfold qM;rw [dO (Ef h),h]
def Jv (su:qH w m v g e) (hs:zY w m=true) (t:fZ N w) (tm:eJ m) (hN:N<=100000000) (hk:m.op.kind=3) (h:vg w m=some r):oT 98 w m r:=by
 have gw:=qi.1 su.world;have sw:=oZ gw t hN;have ok:=ox gw t hN;have hl:=tm.listen;unfold vg at h;by_cases p:m.pc=0
 ·rw [dO p] at h;by_cases q:lu m.op.config=0
  ·rw [dO q] at h;cases h
   exact NL w m sw ok hl p hs (tm.cfg hk) q
  ·rw [dL q] at h;cases h
   exact MO w m _ sw ok hl p hs (tm.cfg hk) (by rw [Et,wy]) q
 rw [dL p] at h
 clear p
 by_cases p:m.pc=1
 ·rw [dO p] at h;cases h
  exact NM w m sw ok hl p hs
 rw [dL p] at h
 clear p
 by_cases p:m.pc=2
 ·rw [dO p] at h;cases q:kR w m
  ·rw [q] at h;cases h
   cases hx:w.zr with
   | nil=>have:=Nj w m sw ok hl p hs q hx;rwa [hx] at this
   | cons x l=>have:=OD w m x l sw ok hl p hs q hx;rwa [hx] at this
  ·rw [q] at h;cases h
 rw [dL p] at h;cases h
def Ox (su:qH w m v g e) (hs:zY w m=true) (t:fZ N w) (tm:eJ m) (hN:N<=100000000) (h:ny w m=some r):oT 99 w m r:=by
 have gw:=qi.1 su.world;have sw:=oZ gw t hN;have ok:=ox gw t hN;have hl:=tm.listen;unfold ny at h;by_cases p:m.pc=0
 ·rw [dO p] at h;by_cases q:zT w.zd m.op.listen < 0
  ·rw [dO q] at h;cases h
   exact MC w m sw ok hl p hs q
  ·rw [dL q] at h;obtain ⟨x,hx,rfl⟩:=gJ.1 h;exact Me w m x sw ok hl p hs aw hx
 rw [dL p] at h;cases h
def PL (su:qH w m v g e) (hs:zY w m=true) (t:fZ N w) (tm:eJ m) (hN:N<=100000000) (hk:m.op.kind=6) (h:nu w m=some r):oT 101 w m r:=by
 have gw:=qi.1 su.world;have sw:=oZ gw t hN;have ok:=ox gw t hN;unfold nu at h;split at h
 rotate_left
 ·cases h
 rename_i p;obtain ⟨rw_,h1,h2⟩:=pd.1 h;obtain ⟨n,h3,rfl⟩:=gJ.1 h2;exact ND w m rw_ n sw ok tm.listen p.1 hs su.done ⟨su.i,h1,su.k,p.2,h3⟩ (tm.iO hk su.done)
def wY (gw:jD w) {i:Nat} {x:u7} (hx:w.zr[i]?= some x):0<=x.at_∧x.at_<=w.zn∧0<=x.version∧x.version < w.ze.length∧x.version≠w.current:=by
 have h1:=gw.bad x (dM hx);have h2:=pn (show decide (∀ i,(h:i < w.zr.length)->Go.Lim.eP w.zr i w.zr[i]=true)=true from gw.zr) i (dJ.1 hx).1;rw [(dJ.1 hx).2] at h2;unfold yl at h1;unfold Go.Lim.eP at h2;simp at h1 h2;omega
def Kz (h0:0<=m.i):tn 131 [⟨1,37,8,[zJ w],0⟩,⟨1,69,44,[zD m],0⟩] [.agg tj] (Ce (mS w m).2.2) [⟨1,37,8,[zJ (mS w m).1],0⟩,⟨1,69,44,[zD (mS w m).2.1],0⟩]:=by
 unfold mS;cases hx:w.zd[m.i.toNat]? with
 | none=>exact LW w m (by have:=pF.1 hx;omega)
 | some l=>exact Ma w m l h0 hx
def M1 (su:qH w m v g e) (hs:zY w m=true) (t:fZ N w) (tm:eJ m) (hN:N<=100000000) (h:yR w m=some r):oT 100 w m r:=by
 have gw:=qi.1 su.world;have sw:=oZ gw t hN;have ok:=ox gw t hN;have hl:=tm.listen;have av:=su.at_.tomr;unfold yR at h;by_cases p:m.pc=0
 ·rw [dO p] at h;by_cases q:w.lock=0
  ·rw [dO q] at h;cases h
   (exact jz sw ok hl hs (xg w m aw) 0 _ rfl (fun _ _ _ _ _ _ _ _ _ _=>by rw [p];rfl) rfl (ML w m q))
  ·rw [dL q] at h;cases h
   (exact jz sw ok hl hs (xg w m aw) 0 _ rfl (fun _ _ _ _ _ _ _ _ _ _=>by rw [p];rfl) rfl (Nt w m q))
 rw [dL p] at h
 clear p
 by_cases p:m.pc=1
 ·rw [dO p] at h;cases h
  (exact jz sw ok hl hs (xg w m aw) 1 _ rfl (fun _ _ _ _ _ _ _ _ _ _=>by rw [p];rfl) rfl (Go.Wor.Mn w m))
 rw [dL p] at h
 clear p
 by_cases p:m.pc=2
 ·rw [dO p] at h;obtain ⟨x,hx,rfl⟩:=gJ.1 h;have uj:=(dJ.1 hx).1;have si:=su.i;exact jz sw ok hl hs (O3 w m p aw) 2 _ rfl (fun _ _ _ _ _ _ _ _ _ _=>by rw [p];rfl) rfl (MK w m x su.i hx)
 rw [dL p] at h
 clear p
 by_cases p:m.pc=3
 ·rw [dO p] at h;by_cases q:w.zn=m.zn∧w.zn < 1000000000000
  ·rw [dO q] at h;cases h
   (exact jz sw ok hl hs (xg w m aw) 3 _ rfl (fun _ _ _ _ _ _ _ _ _ _=>by rw [p];rfl) rfl (LU w m q.1 q.2))
  ·rw [dL q] at h;cases h
   (exact jz sw ok hl hs (xg w m aw) 3 _ rfl (fun _ _ _ _ _ _ _ _ _ _=>by rw [p];rfl) rfl (L4 w m q))
 rw [dL p] at h
 clear p
 by_cases p:m.pc=4
 ·rw [dO p] at h;cases hx:w.zr[m.i.toNat]? with
  | none=>
   rw [hx] at h;cases h
   (exact jz sw ok hl hs (xg w m aw) 4 _ rfl (fun _ _ _ _ _ _ _ _ _ _=>by rw [p];rfl) rfl (LS (by have:=pF.1 hx;have:=su.i;omega) (Kz (m:=fm m 8 0) (gd _))))
  | some x=>
   rw [hx] at h;cases h
   have la:=wY gw hx;have ge:=(qa.1 gw.ground).zn
   (exact jz sw ok hl hs (xg w m aw) 4 _ rfl (fun _ _ _ _ _ _ _ _ _ _=>by rw [p];rfl) rfl (Mo w m x ⟨aw,aw⟩ su.i hx))
 rw [dL p] at h
 clear p
 by_cases p:m.pc=5
 ·rw [dO p] at h;obtain ⟨v',hv',h⟩:=pd.1 h;obtain ⟨x,hx,rfl⟩:=gJ.1 h;have uj:=(dJ.1 hx).1;have sk:=su.k;exact jz sw ok hl hs (O4 w m v' (KQ gw hv') p ⟨su.version.1,hv'⟩ aw) 5 _ rfl (fun _ _ _ _ _ _ _ _ _ _=>by rw [p];rfl) rfl (L3 w m v' x (KQ gw hv') ⟨su.version.1,hv'⟩ su.k hx)
 rw [dL p] at h
 clear p
 by_cases p:m.pc=6
 ·rw [dO p] at h;obtain ⟨v',hv',h⟩:=pd.1 h;obtain ⟨x,hx,h⟩:=pd.1 h;split at h
  rotate_left
  ·cases h
  rename_i q;cases h
  exact M4 sw ok hl hs (O5 w m x p su.i hx q.1 q.2) 6 _ rfl (fun _ _ _ _ _ _ _ _ _ _=>by rw [p];rfl) rfl (by rintro h0;rw [h0] at hv';simp at hv') (by rintro h0;rw [h0] at hx;simp at hx) aj aj (Cj w m v' x ⟨su.version.1,hv'⟩ su.i hx)
 rw [dL p] at h
 clear p
 by_cases p:m.pc=8
 ·rw [dO p] at h;cases h
  (exact jz sw ok hl hs (xg w m aw) 7 _ rfl (fun _ _ _ _ _ _ _ _ _ _=>by rw [p];rfl) rfl (Kz su.i))
 rw [dL p] at h
 clear p
 by_cases p:m.pc=9
 ·rw [dO p] at h;obtain ⟨x,hx,rfl⟩:=gJ.1 h;have uj:=(dJ.1 hx).1;have si:=su.i;exact jz sw ok hl hs (O6 w m p aw) 8 _ rfl (fun _ _ _ _ _ _ _ _ _ _=>by rw [p];rfl) rfl (Mc w m x su.i hx)
 rw [dL p] at h
 clear p
 by_cases p:m.pc=10
 ·rw [dO p] at h;obtain ⟨x,hx,h⟩:=pd.1 h;split at h
  rotate_left
  ·cases h
  rename_i q;cases h
  exact M5 sw ok hl hs (N7 w m x p su.i hx q) 9 _ rfl (fun _ _ _ _ _ _ _ _ _ _=>by rw [p];rfl) rfl (by rintro h0;rw [h0] at hx;simp at hx) aj (OX w m x su.i hx)
 rw [dL p] at h;cases h
end
end Go.Wor
namespace Go.Wor
open Go.Ab Go.Proofs Tryz Go.Gat Go.Nam Go.Hos Go.Con Go.Sna Go.Pla
open Go.Hy hiding encI
abbrev SP (w:Wor) (m:uk) (r:Wor × uk × uv):Prop:=tn 47 [] [Sw w,Sm m] (Sr r.1 r.2.1 r.2.2) []
def Pl {N:Nat} {w:Wor} {m:uk} {r:Wor × uk × uv} (hs:zY w m=true) (t:fZ N w) (tm:eJ m) (hN:N<=100000000) (h:lq w m=some r):SP w m r:=by
 obtain ⟨v,g,e,su⟩:=kD hs;unfold lq at h;rw [su.eF] at h;dsimp only at h;rw [su.u9] at h;dsimp only at h;rw [su.eE] at h;dsimp only at h;by_cases k:m.op.kind=1
 ·rw [dO k] at h;exact NF k (N1 su hs t tm hN h)
 rw [dL k] at h
 clear k
 by_cases k:m.op.kind=2
 ·rw [dO k] at h;exact NG k (Nh su hs t tm hN h)
 rw [dL k] at h
 clear k
 by_cases k:m.op.kind=3
 ·rw [dO k] at h;exact D0 k (Jv su hs t tm hN k h)
 rw [dL k] at h
 clear k
 by_cases k:m.op.kind=4
 ·rw [dO k] at h;exact NH k (Ox su hs t tm hN h)
 rw [dL k] at h
 clear k
 by_cases k:m.op.kind=5
 ·rw [dO k] at h;exact NI k (M1 su hs t tm hN h)
 rw [dL k] at h
 clear k
 by_cases k:m.op.kind=6
 ·rw [dO k] at h;exact NJ k (PL su hs t tm hN k h)
 rw [dL k] at h;cases h
end Go.Wor
