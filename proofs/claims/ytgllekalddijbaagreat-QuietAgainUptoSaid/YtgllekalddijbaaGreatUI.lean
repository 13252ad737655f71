import Derived.Test.YtgllekalddijbaaGreatUY
import Derived.Test.YtgllekalddijbaaGreatUG
import Derived.Test.YtgllekalddijbaaGreatUH
import Derived.Test.YtgllekalddijbaaGreatUZ
set_option linter.unusedVariables false
set_option linter.unusedSimpArgs false
set_option linter.unusedSectionVars false
set_option maxRecDepth 100000
set_option maxHeartbeats 4000000
namespace Go.Wor
open Go.Ab Go.Proofs Go.Hy Go.Gat Go.Nam Go.Hos Go.Con Go.Sna
end Go.Wor
namespace Go.Wor
open Go.Ab Go.Proofs Go.Hy Go.Gat Go.Nam Go.Hos Go.Con Go.Sna
abbrev Res:=Option (Wor × Mac × Eve)
def zm0 (w:Wor) (m:Mac):Res:=
 if m.pc=0 then some (w,{ m with zj:=w.zj,pc:=1 },zkp m (ldE w.zj))
 else if m.pc=1 then some (zkF w m.zC.toNat (IntKind.i64.wrap (m.zj+1)),{ m with pc:=2 },zkp m ⟨0,0,2,2,0,false,IntKind.i64.wrap (m.zj+1),false,false,false,zaT⟩)
 else if m.pc=2 then some (w,{ m with zj:=w.zj,pc:=if w.zj=m.zj then 3 else 1 },zkp m (ldE w.zj))
 else none
abbrev zmt (x:Lis):Lis:={ x with zr:=IntKind.i64.wrap (x.zr+1) }
abbrev zt (x:Int):Int:=x % 4294967296 - 1
abbrev zkL (m:Mac):Ans:=⟨1,m.version,m.zn,m.end_,m.slot,m.listen,0,⟨0,0,0,0,0,0⟩⟩
def zi3 (w:Wor) (m:Mac) (k pc:Int):Res:=match w.counts[m.zC.toNat]? with
 | none=>none
 | some r0=>match r0[k.toNat]? with
  | none=>none
  | some x=>some ({ w with counts:=w.counts.set m.zC.toNat (r0.set k.toNat (IntKind.u64.wrap (x+1))) },{ m with pc:=pc },evO m 3 10 k)
def zku (w:Wor) (m:Mac) (f:Lis->Wor × Mac × Eve):Res:=if m.listen < 0 then none else (w.zc[m.listen.toNat]?).map f
def zhl (w:Wor) (m:Mac) (v:Ver) (g:Gr) (e:En):Res:=
 if m.pc < 3 then zm0 w m
 else if m.pc=3 then some (w,if qo w.zc m.op.listen < 0 then zeR (lvM w m) 2 else lvM w m,ptE (evO m 1 3 w.current))
 else if m.pc=4 then zku w m fun x=>({ w with zc:=w.zc.set m.listen.toNat (zmt x) },{ m with pc:=5 },evO m 3 5 (IntKind.i64.wrap (x.zr+1)))
 else if m.pc=5 then zku w m fun l=>(w,if l.drain then zeR m 5 else zlL m v,if l.drain then { evO m 1 4 1 with zdg:=true } else evO m 1 4 0)
 else if m.pc=6 then (v.snap.zf[m.zn.toNat]?).map fun c=>(zdn w m v g e (IntKind.u64.wrap (g.jC+1)) e.head e.zr,zkQ m c g.jC,evV m v 3 6 (IntKind.i64.wrap g.jC))
 else if m.pc=7 then some (w,{ m with i:=e.zr,pc:=8 },evV m v 1 7 e.zr)
 else if m.pc=8 then (g.ends[m.other.toNat]?).map fun e2=>(w,{ m with end_:=if e2.zr < m.i then m.other else m.end_,pc:=9 },evV m v 1 7 e2.zr)
 else if m.pc=9 then some (w,if 0<=zt e.head∧zt e.head < e.next.length then { m with word:=e.head,slot:=zt e.head,pc:=10 } else zeR { m with word:=e.head } 4,evV m v 1 8 (zt e.head))
 else if m.pc=10 then (e.next[m.slot.toNat]?).map fun x=>(w,{ m with link:=x,pc:=11 },evV m v 1 9 x)
 else if m.pc=11 then (if e.head=m.word then some (zdn w m v g e g.jC (Slp.kg m.word m.link) e.zr,{ m with pc:=12 },evV m v 4 8 m.slot) else some (w,{ m with pc:=9 },evV m v 5 8 (zt e.head)))
 else if m.pc=12 then some (zdn w m v g e g.jC e.head (IntKind.i64.wrap (e.zr+1)),{ m with answer:=zkL m,pc:=20 },evV m v 3 7 (IntKind.i64.wrap (e.zr+1)))
 else if m.pc=20 then zi3 w m (zmn m.answer.kind) 21
 else if m.pc=21 then zi3 w m 0 (if m.answer.kind=1∨m.listen < 0 then 23 else 22)
 else if m.pc=22 then zku w m fun x=>({ w with zc:=w.zc.set m.listen.toNat (zk5 x) },{ m with pc:=23 },evO m 3 5 (IntKind.i64.wrap (x.zr - 1)))
 else if m.pc=23 then some (zkF w m.zC.toNat 0,{ m with done:=true },{ zmW m with done:=true,answer:=m.answer })
 else none
def zhf (w:Wor) (m:Mac) (v:Ver) (g:Gr) (e:En):Res:=
 if m.pc=0 then some (w,{ m with word:=e.head,pc:=1 },evV m v 1 8 (zt e.head))
 else if m.pc=1 then some (zdn w m v g (zmq m e) g.jC e.head e.zr,{ m with pc:=2 },evV m v 2 9 (zt m.word))
 else if m.pc=2 then (if e.head=m.word then some (zdn w m v g e g.jC (Slp.kg m.word m.slot) e.zr,{ m with pc:=3 },{ evV m v 4 8 m.slot with zdg:=true }) else some (w,{ m with pc:=0 },evV m v 5 8 (zt e.head)))
 else if m.pc=3 then some (zdn w m v g e g.jC e.head (IntKind.i64.wrap (e.zr - 1)),{ m with pc:=4 },evV m v 3 7 (IntKind.i64.wrap (e.zr - 1)))
 else if m.pc=4 then zku w m fun x=>({ w with zc:=w.zc.set m.listen.toNat (zk5 x) },{ m with answer:=zk1 m,done:=true },zmi m x)
 else if m.pc=9 then some (w,{ m with answer:=zcy 7,done:=true },zmw m)
 else none
abbrev zmh (p:Int):Ans:=⟨10,0,0,0,0,p,0,⟨0,0,0,0,0,0⟩⟩
def zi6 (w:Wor) (m:Mac):Res:=
 if m.pc=0 then (if qo w.zc m.op.listen < 0 then some (w,{ m with done:=true,answer:=zcy 7 },{ drE m with done:=true,answer:=zcy 7 })
  else (w.zc[(qo w.zc m.op.listen).toNat]?).map fun x=>({ w with zc:=w.zc.set (qo w.zc m.op.listen).toNat (Go.Gat.zi7 x) },{ m with listen:=qo w.zc m.op.listen,done:=true,answer:=zmh (qo w.zc m.op.listen) },{ zmU m with done:=true,answer:=zmh (qo w.zc m.op.listen) }))
 else none
def ldS (w:Wor) (m:Mac):Wor × Mac × Eve:=match w.zc[m.i.toNat]? with
 | none=>({ w with lock:=0 },{ m with done:=true,answer:=ziI 11 m.answer.n },{ evO m 2 14 0 with done:=true,answer:=ziI 11 m.answer.n })
 | some l=>(w,ldM m l,zmp m l)
def jr (w:Wor) (m:Mac):Res:=
 if m.pc=0 then some (if w.lock=0 then ({ w with lock:=1 },{ m with pc:=1 },evO m 4 14 1) else (w,{ m with done:=true,answer:=zcy 12 },{ evO m 5 14 1 with done:=true,answer:=zcy 12 }))
 else if m.pc=1 then some (w,{ m with zj:=w.zj,pc:=2,i:=0 },evO m 1 1 w.zj)
 else if m.pc=2 then (w.pins[m.i.toNat]?).map fun p=>(w,lpM w m p,evO m 1 2 p)
 else if m.pc=3 then some (if w.zj=m.zj∧w.zj < 1000000000000 then ({ w with zj:=IntKind.i64.wrap (w.zj+1) },{ atM m 4 0 with zj:=IntKind.i64.wrap (w.zj+1) },evO m 4 1 (IntKind.i64.wrap (w.zj+1))) else (w,atM m 4 0,evO m 5 1 w.zj))
 else if m.pc=4 then some (match w.zg[m.i.toNat]? with | none=>ldS w (atM m 8 0) | some r=>(w,llM m r,evO m 1 11 r.version))
 else if m.pc=5 then (w.zd[m.version.toNat]?).bind fun v=>((qd v)[m.k.toNat]?).map fun e=>(w,laM m v e.zr,laE m v e.zr)
 else if m.pc=6 then (w.zd[m.version.toNat]?).bind fun v=>(w.zg[m.i.toNat]?).bind fun r=>if r.version=m.version∧r.gone=false then
  some ({ w with zd:=w.zd.set m.version.toNat (vq v),zg:=w.zg.set m.i.toNat (xY r) },frM m,evO m 2 12 m.version) else none
 else if m.pc=8 then some (ldS w m)
 else if m.pc=9 then (w.zc[m.i.toNat]?).map fun l=>(w,if l.zr=0 then { m with pc:=10 } else atM m 8 (IntKind.i64.wrap (m.i+1)),evO m 1 5 l.zr)
 else if m.pc=10 then (w.zc[m.i.toNat]?).bind fun l=>if l.drain then some ({ w with zc:=w.zc.set m.i.toNat (wH l) },atM m 8 (IntKind.i64.wrap (m.i+1)),evO m 2 13 1) else none
 else none
structure TyW (N:Nat) (w:Wor):Prop where
 yc:w.zd.length<=N
 lis:w.zc.length<=N
 lim:w.zg.length<=N
 okv:∀ v ∈ w.zd,yr v.snap∧∀ g ∈ v.zk,u64 g.jC∧∀ e ∈ g.ends,e.ok
 okl:∀ l ∈ w.zc,l.ok
structure TyM (m:Mac):Prop where
 listen:i64 m.listen
 word:u64 m.word
 link: -1<=m.link∧m.link<=2147483646
 host:m.op.host.length < 1000000000000
 path:m.op.path.length < 1000000000000
 d0:i64 m.op.d0
 d1:i64 m.op.d1
 cfg:m.op.kind=3->zbw m.op.config
 ans:m.op.kind=6->m.done=false->m.answer=zaT
end Go.Wor
namespace Go.Wor
open Go.Ab Go.Proofs Go.Hy Go.Gat Go.Nam Go.Hos Go.Con Go.Sna
structure zkU (x:Clu) (e:En):Prop where
 is:Slp.isV e=true
 len:(e.next.length:Int)=x.xG
structure kb (v:Ver):Prop where
 snap:za1 v.snap=true
 len:v.zk.length=v.snap.zf.length
 grp:∀ (i:Nat) g x,v.zk[i]?= some g->v.snap.zf[i]?= some x->g.ends.length=x.zT.length∧∀ e ∈ g.ends,zkU x e
theorem kZ {x:Clu} {e:En}:yR x e=false↔zkU x e:=by
 unfold yR
 constructor
 ·intro h
  simp at h
  exact ⟨h.1,h.2⟩
 ·rintro ⟨h1,h2⟩
  simp [h1,h2]
theorem zfz {v:Ver}:zav v=true↔kb v:=by
 unfold zav
 simp only [Bool.and_eq_true,decide_eq_true_eq,List.all_eq_true,List.mem_range]
 constructor
 ·rintro ⟨⟨h1,h2⟩,h3⟩
  refine ⟨h1,h2,fun i g x hg hx=>?_⟩
  have:=h3 i (List.getElem?_eq_some_iff.1 hg).1
  unfold zaM at this
  rw [hg,hx] at this
  simp only [Bool.and_eq_true,decide_eq_true_eq,Bool.not_eq_true',List.any_eq_false] at this
  exact ⟨this.1,fun e he=>kZ.1 (by simpa using this.2 e he)⟩
 ·rintro ⟨h1,h2,h3⟩
  refine ⟨⟨h1,h2⟩,fun i hi=>?_⟩
  unfold zaM
  split
  ·rename_i g x hg hx
   obtain ⟨h4,h5⟩:=h3 i g x hg hx
   simp only [Bool.and_eq_true,decide_eq_true_eq,Bool.not_eq_true',List.any_eq_false]
   exact ⟨h4,fun e he=>by simp [kZ.2 (h5 e he)]⟩
  ·rfl
structure qG (w:Wor):Prop where
 ground:qt w=true
 current:0<=w.current∧w.current < w.zd.length
 zg:Go.Lim.isV w.zg=true
 bad:∀ r ∈ w.zg,jP w r=false
 ver:∀ (i:Nat) v,w.zd[i]?= some v->kb v∧v.j7=jZ w.zg i
 lis:∀ (i:Nat) l,w.zc[i]?= some l->Go.Gat.isV l=true∧qo w.zc l.name=i
theorem qB {w:Wor}:qa w=true↔qG w:=by
 unfold qa
 simp only [Bool.and_eq_true,decide_eq_true_eq,List.all_eq_true,List.mem_range,Bool.not_eq_true',List.any_eq_false]
 constructor
 ·rintro ⟨⟨⟨⟨⟨h1,h2⟩,h3⟩,h4⟩,h5⟩,h6⟩
  refine ⟨h1,h2,h3,fun r hr=>by simpa using h4 r hr,fun i v hv=>?_,fun i l hl=>?_⟩
  ·have:=h5 i (List.getElem?_eq_some_iff.1 hv).1
   unfold vH at this
   rw [hv] at this
   simp only [Bool.and_eq_true,beq_iff_eq] at this
   exact ⟨zfz.1 this.1,this.2⟩
  ·have:=h6 i (List.getElem?_eq_some_iff.1 hl).1
   unfold y3 at this
   rw [hl] at this
   simpa using this
 ·rintro ⟨h1,h2,h3,h4,h5,h6⟩
  refine ⟨⟨⟨⟨⟨h1,h2⟩,h3⟩,fun r hr=>by simp [h4 r hr]⟩,fun i hi=>?_⟩,fun i hi=>?_⟩
  ·unfold vH
   split
   ·rename_i v hv
    obtain ⟨a,b⟩:=h5 i v hv
    simp [zfz.2 a,b]
   ·rfl
  ·unfold y3
   split
   ·rename_i l hl
    obtain ⟨a,b⟩:=h6 i l hl
    simp [a,b]
   ·rfl
theorem kb.few {v:Ver} (h:kb v):v.zk.length<=4∧∀ g ∈ v.zk,g.ends.length<=4∧1<=g.ends.length∧∀ e ∈ g.ends,Slp.isV e=true∧e.next.length<=4∧1<=e.next.length:=by
 have gn:=xR h.snap
 refine ⟨by have:=gn.zf.2;have:=h.len;omega,fun g hg=>?_⟩
 obtain ⟨i,hi⟩:=List.mem_iff_getElem?.1 hg
 have hlt:=(List.getElem?_eq_some_iff.1 hi).1
 obtain ⟨x,hx⟩:∃ x,v.snap.zf[i]?= some x:=⟨_,List.getElem?_eq_getElem (by have:=h.len;omega)⟩
 obtain ⟨h1,h2⟩:=h.grp i g x hi hx
 have gx:=gn.all x (List.mem_of_getElem? hx)
 refine ⟨by have:=gx.zT.2;omega,by have:=gx.zT.1;omega,fun e he=>?_⟩
 have ge:=h2 e he
 have gs:=gx.xG
 exact ⟨ge.is,by have:=ge.len;omega,by have:=ge.len;omega⟩
structure Grd (w:Wor):Prop where
 pins:1<=w.pins.length∧w.pins.length<=8
 counts:w.counts.length=w.pins.length∧∀ r ∈ w.counts,r.length=6
 zj:0<=w.zj∧w.zj<=1000000000000
 lock:w.lock=0∨w.lock=1
 pin:∀ p ∈ w.pins,0<=p∧p<=w.zj+1
theorem qb {w:Wor}:qt w=true↔Grd w:=by
 unfold qt y0
 simp only [Bool.and_eq_true,Bool.or_eq_true,decide_eq_true_eq,List.all_eq_true,Bool.not_eq_true',List.any_eq_false,beq_iff_eq]
 constructor
 ·rintro ⟨⟨⟨⟨⟨⟨⟨h1,h2⟩,h3⟩,⟨h4,h5⟩,h6⟩,h7⟩,h8⟩,h9⟩,h10⟩
  exact ⟨⟨h1,h2⟩,⟨h3,h4⟩,⟨h7,h8⟩,h9,fun p hp=>by have:=h10 p hp;simp [yw] at this;omega⟩
 ·rintro ⟨⟨h1,h2⟩,⟨h3,h4⟩,⟨h7,h8⟩,h9,h10⟩
  exact ⟨⟨⟨⟨⟨⟨⟨h1,h2⟩,h3⟩,⟨h4,by omega⟩,by omega⟩,h7⟩,h8⟩,h9⟩,fun p hp=>by have:=h10 p hp;simp [yw];omega⟩
theorem zmH {N:Nat} {w:Wor} (h:qG w) (t:TyW N w) (hN:N<=100000000):zbv w:=by
 have g:=qb.1 h.ground
 refine ⟨by have:=g.pins;omega,⟨by have:=t.yc;omega,fun v hv=>?_⟩,by have:=t.lis;omega,⟨by have:=g.counts.1;have:=g.pins;omega,fun r hr=>by have:=g.counts.2 r hr;omega⟩,by have:=t.lim;omega⟩
 obtain ⟨i,hi⟩:=List.mem_iff_getElem?.1 hv
 have f:=(h.ver i v hi).1.few
 exact ⟨by omega,fun g hg=>⟨by have:=(f.2 g hg).1;omega,fun e he=>by have:=((f.2 g hg).2.2 e he).2;omega⟩⟩
theorem zhs {N:Nat} {w:Wor} (h:qG w) (t:TyW N w) (hN:N<=100000000):OkW w:=by
 have g:=qb.1 h.ground
 refine ⟨by have:=g.pins;omega,⟨by have:=t.yc;omega,fun v hv=>?_⟩,⟨by have:=t.lis;omega,t.okl⟩,⟨by have:=g.counts.1;have:=g.pins;omega,fun r hr=>by have:=g.counts.2 r hr;omega⟩,by have:=t.lim;omega⟩
 obtain ⟨i,hi⟩:=List.mem_iff_getElem?.1 hv
 have f:=(h.ver i v hi).1.few
 have o:=t.okv v hv
 exact ⟨o.1,by omega,fun g hg=>⟨by have:=(f.2 g hg).1;omega,(o.2 g hg).2⟩⟩
theorem zjd {w:Wor} (h:qG w) {i:Nat} {v:Ver} (hv:w.zd[i]?= some v):zhE v:=by
 have f:=(h.ver i v hv).1.few
 exact ⟨by omega,fun g hg=>by have:=(f.2 g hg).1;omega⟩
theorem x6 {α:Type} (l:List α) (i:Nat) {x:α} (h:l[i]?= some x):l.set i x=l:=by
 obtain ⟨h1,rfl⟩:=List.getElem?_eq_some_iff.1 h
 exact List.set_getElem_self h1
end Go.Wor
namespace Go.Wor
open Go.Ab Go.Proofs Go.Hy Go.Gat Go.Nam Go.Hos Go.Con Go.Sna
abbrev zlm (f:FuncId) (w:Wor) (m:Mac) (r:Wor × Mac × Eve):Prop:=zb Tryz.prog f [] [Cw w,Cm m] (.tup [Cw r.1,Cm r.2.1,Ce r.2.2]) []
theorem yi.at_ {w:Wor} {m:Mac} {v:Ver} {g:Gr} {e:En} (su:yi w m v g e):AtE w m v g e:=⟨⟨⟨su.version.1,su.atv⟩,su.zn.1,su.atg⟩,su.end_.1,su.ate⟩
section
variable {N:Nat} {w:Wor} {m:Mac} {v:Ver} {g:Gr} {e:En} {r:Wor × Mac × Eve}
end
end Go.Wor
namespace Go.Wor
open Go.Ab Go.Proofs Go.Hy Go.Gat Go.Nam Go.Hos Go.Con Go.Sna
section
variable {N:Nat} {w:Wor} {m:Mac} {v:Ver} {g:Gr} {e:En} {r:Wor × Mac × Eve}
theorem wm (gw:qG w) {i:Nat} {x:Ret} (hx:w.zg[i]?= some x):0<=x.at_∧x.at_<=w.zj∧0<=x.version∧x.version < w.zd.length∧x.version≠w.current:=by
 have h1:=gw.bad x (List.mem_of_getElem? hx)
 have h2:=of_decide_eq_true (show decide (∀ i,(h:i < w.zg.length)->Go.Lim.okV w.zg i w.zg[i]=true)=true from gw.zg) i (List.getElem?_eq_some_iff.1 hx).1
 rw [(List.getElem?_eq_some_iff.1 hx).2] at h2
 unfold jP at h1
 unfold Go.Lim.okV at h2
 simp at h1 h2
 omega
theorem zho (h0:0<=m.i):zb Tryz.prog 232 [⟨1,28,8,[zU w],0⟩,⟨1,43,44,[zW m],0⟩] [.agg [.ref 0 [] 8 0 0,.ref 1 [] 44 0 0]] (Ce (ldS w m).2.2) [⟨1,28,8,[zU (ldS w m).1],0⟩,⟨1,43,44,[zW (ldS w m).2.1],0⟩]:=by
 unfold ldS
 cases hx:w.zc[m.i.toNat]? with
 | none=>exact kz w m (by have:=List.getElem?_eq_none_iff.1 hx;omega)
 | some l=>exact zah w m l h0 hx
theorem zdE (su:yi w m v g e) (hs:jx w m=true) (t:TyW N w) (tm:TyM m) (hN:N<=100000000) (h:jr w m=some r):zlm 156 w m r:=by
 have gw:=qB.1 su.world
 have sw:=zmH gw t hN
 have ok:=zhs gw t hN
 have hl:=tm.listen
 have av:=su.at_.toAtV
 unfold jr at h
 by_cases p:m.pc=0
 ·rw [if_pos p] at h
  by_cases q:w.lock=0
  ·rw [if_pos q] at h
   cases h
   (exact ql sw ok hl hs (qJ w m (by omega)) 0 _ rfl (fun _ _ _ _ _ _ _ _ _ _=>by rw [p];rfl) rfl (zcH w m q))
  ·rw [if_neg q] at h
   cases h
   (exact ql sw ok hl hs (qJ w m (by omega)) 0 _ rfl (fun _ _ _ _ _ _ _ _ _ _=>by rw [p];rfl) rfl (zdX w m q))
 rw [if_neg p] at h
 clear p
 by_cases p:m.pc=1
 ·rw [if_pos p] at h
  cases h
  (exact ql sw ok hl hs (qJ w m (by omega)) 1 _ rfl (fun _ _ _ _ _ _ _ _ _ _=>by rw [p];rfl) rfl (Go.Wor.zbd w m))
 rw [if_neg p] at h
 clear p
 by_cases p:m.pc=2
 ·rw [if_pos p] at h
  obtain ⟨x,hx,rfl⟩:=Option.map_eq_some_iff.1 h
  have hlt:=(List.getElem?_eq_some_iff.1 hx).1
  have si:=su.i
  exact ql sw ok hl hs (zgt w m p (by omega)) 2 _ rfl (fun _ _ _ _ _ _ _ _ _ _=>by rw [p];rfl) rfl (zcG w m x su.i hx)
 rw [if_neg p] at h
 clear p
 by_cases p:m.pc=3
 ·rw [if_pos p] at h
  by_cases q:w.zj=m.zj∧w.zj < 1000000000000
  ·rw [if_pos q] at h
   cases h
   (exact ql sw ok hl hs (qJ w m (by omega)) 3 _ rfl (fun _ _ _ _ _ _ _ _ _ _=>by rw [p];rfl) rfl (kS w m q.1 q.2))
  ·rw [if_neg q] at h
   cases h
   (exact ql sw ok hl hs (qJ w m (by omega)) 3 _ rfl (fun _ _ _ _ _ _ _ _ _ _=>by rw [p];rfl) rfl (wY w m q))
 rw [if_neg p] at h
 clear p
 by_cases p:m.pc=4
 ·rw [if_pos p] at h
  cases hx:w.zg[m.i.toNat]? with
  | none=>
   rw [hx] at h
   cases h
   (exact ql sw ok hl hs (qJ w m (by omega)) 4 _ rfl (fun _ _ _ _ _ _ _ _ _ _=>by rw [p];rfl) rfl (kA (by have:=List.getElem?_eq_none_iff.1 hx;have:=su.i;omega) (zho (m:=atM m 8 0) (Int.le_refl _))))
  | some x=>
   rw [hx] at h
   cases h
   have la:=wm gw hx
   have ge:=(qb.1 gw.ground).zj
   (exact ql sw ok hl hs (qJ w m (by omega)) 4 _ rfl (fun _ _ _ _ _ _ _ _ _ _=>by rw [p];rfl) rfl (zbe w m x ⟨by omega,by omega⟩ su.i hx))
 rw [if_neg p] at h
 clear p
 by_cases p:m.pc=5
 ·rw [if_pos p] at h
  obtain ⟨v',hv',h⟩:=Option.bind_eq_some_iff.1 h
  obtain ⟨x,hx,rfl⟩:=Option.map_eq_some_iff.1 h
  have hlt:=(List.getElem?_eq_some_iff.1 hx).1
  have sk:=su.k
  exact ql sw ok hl hs (zgu w m v' (zjd gw hv') p ⟨su.version.1,hv'⟩ (by omega)) 5 _ rfl (fun _ _ _ _ _ _ _ _ _ _=>by rw [p];rfl) rfl (zag w m v' x (zjd gw hv') ⟨su.version.1,hv'⟩ su.k hx)
 rw [if_neg p] at h
 clear p
 by_cases p:m.pc=6
 ·rw [if_pos p] at h
  obtain ⟨v',hv',h⟩:=Option.bind_eq_some_iff.1 h
  obtain ⟨x,hx,h⟩:=Option.bind_eq_some_iff.1 h
  split at h
  rotate_left
  ·cases h
  rename_i q
  cases h
  exact zdH sw ok hl hs (zgv w m x p su.i hx q.1 q.2) 6 _ rfl (fun _ _ _ _ _ _ _ _ _ _=>by rw [p];rfl) rfl (by rintro h0;rw [h0] at hv';simp at hv') (by rintro h0;rw [h0] at hx;simp at hx) (by simp) (by simp) (ku w m v' x ⟨su.version.1,hv'⟩ su.i hx)
 rw [if_neg p] at h
 clear p
 by_cases p:m.pc=8
 ·rw [if_pos p] at h
  cases h
  (exact ql sw ok hl hs (qJ w m (by omega)) 7 _ rfl (fun _ _ _ _ _ _ _ _ _ _=>by rw [p];rfl) rfl (zho su.i))
 rw [if_neg p] at h
 clear p
 by_cases p:m.pc=9
 ·rw [if_pos p] at h
  obtain ⟨x,hx,rfl⟩:=Option.map_eq_some_iff.1 h
  have hlt:=(List.getElem?_eq_some_iff.1 hx).1
  have si:=su.i
  exact ql sw ok hl hs (zgw w m p (by omega)) 8 _ rfl (fun _ _ _ _ _ _ _ _ _ _=>by rw [p];rfl) rfl (zai w m x su.i hx)
 rw [if_neg p] at h
 clear p
 by_cases p:m.pc=10
 ·rw [if_pos p] at h
  obtain ⟨x,hx,h⟩:=Option.bind_eq_some_iff.1 h
  split at h
  rotate_left
  ·cases h
  rename_i q
  cases h
  exact zdI sw ok hl hs (zfb w m x p su.i hx q) 9 _ rfl (fun _ _ _ _ _ _ _ _ _ _=>by rw [p];rfl) rfl (by rintro h0;rw [h0] at hx;simp at hx) (by simp) (zgS w m x su.i hx)
 rw [if_neg p] at h
 cases h
end
end Go.Wor
namespace Go.Wor
open Go.Ab Go.Proofs Go.Gat Go.Nam Go.Hos Go.Con Go.Sna Go.Pla
open Go.Hy hiding encI
end Go.Wor
