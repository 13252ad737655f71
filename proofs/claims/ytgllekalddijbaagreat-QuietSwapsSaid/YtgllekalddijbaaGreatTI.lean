import Derived.Test.YtgllekalddijbaaGreatTY
import Derived.Test.YtgllekalddijbaaGreatTG
import Derived.Test.YtgllekalddijbaaGreatTH
import Derived.Test.YtgllekalddijbaaGreatTZ
set_option linter.unusedVariables false
set_option linter.unusedSimpArgs false
set_option linter.unusedSectionVars false
set_option maxRecDepth 100000
set_option maxHeartbeats 4000000
namespace Go.Wor
open Go.Ab Go.Proofs Go.Hy Go.Gat Go.Nam Go.Hos Go.Con Go.Sna
end Go.Wor
namespace Go.Wor
open Go.Ab Go.Proofs Go.Hy Go.Gat Go.Nam Go.Hos Go.Con Go.Sna
abbrev Res:=Option (Wor × Mac × Eve)
def znq (w:Wor) (m:Mac):Res:=
 if m.pc=0 then some (w,{ m with zi:=w.zi,pc:=1 },zk9 m (ldE w.zi))
 else if m.pc=1 then some (zls w m.zB.toNat (IntKind.i64.wrap (m.zi+1)),{ m with pc:=2 },zk9 m ⟨0,0,2,2,0,false,IntKind.i64.wrap (m.zi+1),false,false,false,zbF⟩)
 else if m.pc=2 then some (w,{ m with zi:=w.zi,pc:=if w.zi=m.zi then 3 else 1 },zk9 m (ldE w.zi))
 else none
abbrev znh (x:Lis):Lis:={ x with zr:=IntKind.i64.wrap (x.zr+1) }
abbrev zq (x:Int):Int:=x % 4294967296 - 1
abbrev zlz (m:Mac):Ans:=⟨1,m.version,m.zl,m.end_,m.slot,m.listen,0,⟨0,0,0,0,0,0⟩⟩
def zjT (w:Wor) (m:Mac) (k pc:Int):Res:=match w.counts[m.zB.toNat]? with
 | none=>none
 | some r0=>match r0[k.toNat]? with
  | none=>none
  | some x=>some ({ w with counts:=w.counts.set m.zB.toNat (r0.set k.toNat (IntKind.u64.wrap (x+1))) },{ m with pc:=pc },evO m 3 10 k)
def zle (w:Wor) (m:Mac) (f:Lis->Wor × Mac × Eve):Res:=if m.listen < 0 then none else (w.zc[m.listen.toNat]?).map f
def zb8 (w:Wor) (m:Mac) (v:Ver) (g:Gr) (e:En):Res:=
 if m.pc < 3 then znq w m
 else if m.pc=3 then some (w,if zZ w.zc m.op.listen < 0 then zfS (lvM w m) 2 else lvM w m,ptE (evO m 1 3 w.current))
 else if m.pc=4 then zle w m fun x=>({ w with zc:=w.zc.set m.listen.toNat (znh x) },{ m with pc:=5 },evO m 3 5 (IntKind.i64.wrap (x.zr+1)))
 else if m.pc=5 then zle w m fun l=>(w,if l.drain then zfS m 5 else zmz m v,if l.drain then { evO m 1 4 1 with yY:=true } else evO m 1 4 0)
 else if m.pc=6 then (v.snap.zf[m.zl.toNat]?).map fun c=>(zel w m v g e (IntKind.u64.wrap (g.jV+1)) e.head e.zr,zlE m c g.jV,evV m v 3 6 (IntKind.i64.wrap g.jV))
 else if m.pc=7 then some (w,{ m with i:=e.zr,pc:=8 },evV m v 1 7 e.zr)
 else if m.pc=8 then (g.ends[m.other.toNat]?).map fun e2=>(w,{ m with end_:=if e2.zr < m.i then m.other else m.end_,pc:=9 },evV m v 1 7 e2.zr)
 else if m.pc=9 then some (w,if 0<=zq e.head∧zq e.head < e.next.length then { m with word:=e.head,slot:=zq e.head,pc:=10 } else zfS { m with word:=e.head } 4,evV m v 1 8 (zq e.head))
 else if m.pc=10 then (e.next[m.slot.toNat]?).map fun x=>(w,{ m with link:=x,pc:=11 },evV m v 1 9 x)
 else if m.pc=11 then (if e.head=m.word then some (zel w m v g e g.jV (Slp.wB m.word m.link) e.zr,{ m with pc:=12 },evV m v 4 8 m.slot) else some (w,{ m with pc:=9 },evV m v 5 8 (zq e.head)))
 else if m.pc=12 then some (zel w m v g e g.jV e.head (IntKind.i64.wrap (e.zr+1)),{ m with answer:=zlz m,pc:=20 },evV m v 3 7 (IntKind.i64.wrap (e.zr+1)))
 else if m.pc=20 then zjT w m (znc m.answer.kind) 21
 else if m.pc=21 then zjT w m 0 (if m.answer.kind=1∨m.listen < 0 then 23 else 22)
 else if m.pc=22 then zle w m fun x=>({ w with zc:=w.zc.set m.listen.toNat (zlR x) },{ m with pc:=23 },evO m 3 5 (IntKind.i64.wrap (x.zr - 1)))
 else if m.pc=23 then some (zls w m.zB.toNat 0,{ m with done:=true },{ znJ m with done:=true,answer:=m.answer })
 else none
def zia (w:Wor) (m:Mac) (v:Ver) (g:Gr) (e:En):Res:=
 if m.pc=0 then some (w,{ m with word:=e.head,pc:=1 },evV m v 1 8 (zq e.head))
 else if m.pc=1 then some (zel w m v g (zne m e) g.jV e.head e.zr,{ m with pc:=2 },evV m v 2 9 (zq m.word))
 else if m.pc=2 then (if e.head=m.word then some (zel w m v g e g.jV (Slp.wB m.word m.slot) e.zr,{ m with pc:=3 },{ evV m v 4 8 m.slot with yY:=true }) else some (w,{ m with pc:=0 },evV m v 5 8 (zq e.head)))
 else if m.pc=3 then some (zel w m v g e g.jV e.head (IntKind.i64.wrap (e.zr - 1)),{ m with pc:=4 },evV m v 3 7 (IntKind.i64.wrap (e.zr - 1)))
 else if m.pc=4 then zle w m fun x=>({ w with zc:=w.zc.set m.listen.toNat (zlR x) },{ m with answer:=zlN m,done:=true },zm7 m x)
 else if m.pc=9 then some (w,{ m with answer:=zdp 7,done:=true },znk m)
 else none
def kN (w:Wor) (m:Mac):Res:=
 if m.pc=0 then (if vW m.op.config=0 then some ({ w with current:=w.zd.length,zd:=w.zd++[jS m.op.config] },swM m w.current w.zd.length,{ evO m 6 3 w.zd.length with yY:=true })
  else some (w,{ m with done:=true,answer:=swN (vW m.op.config) },{ evO m 1 3 w.current with yY:=true,done:=true,answer:=swN (vW m.op.config) }))
 else if m.pc=1 then some (w,{ m with zi:=w.zi,pc:=2 },evO m 1 1 w.zi)
 else if m.pc=2 then (if vj w m then none else some ({ w with zg:=w.zg++[⟨m.version,m.zi,false⟩] },{ m with done:=true,answer:=zgz m },{ evO m 2 11 m.version with done:=true,answer:=zgz m }))
 else none
abbrev zm5 (p:Int):Ans:=⟨10,0,0,0,0,p,0,⟨0,0,0,0,0,0⟩⟩
def zjV (w:Wor) (m:Mac):Res:=
 if m.pc=0 then (if zZ w.zc m.op.listen < 0 then some (w,{ m with done:=true,answer:=zdp 7 },{ drE m with done:=true,answer:=zdp 7 })
  else (w.zc[(zZ w.zc m.op.listen).toNat]?).map fun x=>({ w with zc:=w.zc.set (zZ w.zc m.op.listen).toNat (Go.Gat.zjW x) },{ m with listen:=zZ w.zc m.op.listen,done:=true,answer:=zm5 (zZ w.zc m.op.listen) },{ znI m with done:=true,answer:=zm5 (zZ w.zc m.op.listen) }))
 else none
def ldS (w:Wor) (m:Mac):Wor × Mac × Eve:=match w.zc[m.i.toNat]? with
 | none=>({ w with lock:=0 },{ m with done:=true,answer:=zjC 11 m.answer.n },{ evO m 2 14 0 with done:=true,answer:=zjC 11 m.answer.n })
 | some l=>(w,ldM m l,znd m l)
def xH (w:Wor) (m:Mac):Res:=
 if m.pc=0 then some (if w.lock=0 then ({ w with lock:=1 },{ m with pc:=1 },evO m 4 14 1) else (w,{ m with done:=true,answer:=zdp 12 },{ evO m 5 14 1 with done:=true,answer:=zdp 12 }))
 else if m.pc=1 then some (w,{ m with zi:=w.zi,pc:=2,i:=0 },evO m 1 1 w.zi)
 else if m.pc=2 then (w.pins[m.i.toNat]?).map fun p=>(w,lpM w m p,evO m 1 2 p)
 else if m.pc=3 then some (if w.zi=m.zi∧w.zi < 1000000000000 then ({ w with zi:=IntKind.i64.wrap (w.zi+1) },{ atM m 4 0 with zi:=IntKind.i64.wrap (w.zi+1) },evO m 4 1 (IntKind.i64.wrap (w.zi+1))) else (w,atM m 4 0,evO m 5 1 w.zi))
 else if m.pc=4 then some (match w.zg[m.i.toNat]? with | none=>ldS w (atM m 8 0) | some r=>(w,llM m r,evO m 1 11 r.version))
 else if m.pc=5 then (w.zd[m.version.toNat]?).bind fun v=>((qj v)[m.k.toNat]?).map fun e=>(w,laM m v e.zr,laE m v e.zr)
 else if m.pc=6 then (w.zd[m.version.toNat]?).bind fun v=>(w.zg[m.i.toNat]?).bind fun r=>if r.version=m.version∧r.gone=false then
  some ({ w with zd:=w.zd.set m.version.toNat (kq v),zg:=w.zg.set m.i.toNat (yt r) },frM m,evO m 2 12 m.version) else none
 else if m.pc=8 then some (ldS w m)
 else if m.pc=9 then (w.zc[m.i.toNat]?).map fun l=>(w,if l.zr=0 then { m with pc:=10 } else atM m 8 (IntKind.i64.wrap (m.i+1)),evO m 1 5 l.zr)
 else if m.pc=10 then (w.zc[m.i.toNat]?).bind fun l=>if l.drain then some ({ w with zc:=w.zc.set m.i.toNat (zaJ l) },atM m 8 (IntKind.i64.wrap (m.i+1)),evO m 2 13 1) else none
 else none
structure TyW (N:Nat) (w:Wor):Prop where
 xj:w.zd.length<=N
 lis:w.zc.length<=N
 lim:w.zg.length<=N
 okv:∀ v ∈ w.zd,yn v.snap∧∀ g ∈ v.zm,u64 g.jV∧∀ e ∈ g.ends,e.ok
 okl:∀ l ∈ w.zc,l.ok
structure TyM (m:Mac):Prop where
 listen:i64 m.listen
 word:u64 m.word
 link: -1<=m.link∧m.link<=2147483646
 host:m.op.host.length < 1000000000000
 path:m.op.path.length < 1000000000000
 d0:i64 m.op.d0
 d1:i64 m.op.d1
 cfg:m.op.kind=3->jF m.op.config
 ans:m.op.kind=6->m.done=false->m.answer=zbF
end Go.Wor
namespace Go.Wor
open Go.Ab Go.Proofs Go.Hy Go.Gat Go.Nam Go.Hos Go.Con Go.Sna
theorem zbo {c:Cfg} (h:(zY c).1=0):(xg c).1=0∧(qI (ze0 c.zc) c.zc.length).1=0∧(qI (zcs c.zf) c.zf.length).1=0∧(qI (zb3 c) c.zp.length).1=0:=by
 unfold zY at h
 split at h
 ·contradiction
 rename_i h1
 split at h
 ·contradiction
 rename_i h2
 split at h
 ·contradiction
 rename_i h3
 split at h
 ·contradiction
 rename_i h4
 exact ⟨by simpa using h1,Decidable.of_not_not h2,Decidable.of_not_not h3,Decidable.of_not_not h4⟩
theorem zjh {c:Cfg} {i:Nat} {r:Rou} (hr:c.zp[i]?= some r) (h:zb3 c i=0):c.zc.any (fun x=>x == r.listen)=true∧zb2 r.host=true∧vr r.path=true∧vM c.zf r.zl=true:=by
 unfold zb3 at h
 rw [hr] at h
 dsimp only at h
 split at h
 ·cases h
 rename_i h1
 split at h
 ·cases h
 rename_i h2
 split at h
 ·cases h
 rename_i h3
 split at h
 ·cases h
 rename_i h4
 exact ⟨by simpa using h1,by simpa using h2,by simpa using h3,by simpa using h4⟩
structure zlI (x:Clu) (e:En):Prop where
 is:Slp.isV e=true
 len:(e.next.length:Int)=x.jR
structure vR (v:Ver):Prop where
 snap:yE v.snap=true
 len:v.zm.length=v.snap.zf.length
 grp:∀ (i:Nat) g x,v.zm[i]?= some g->v.snap.zf[i]?= some x->g.ends.length=x.zV.length∧∀ e ∈ g.ends,zlI x e
theorem zam {x:Clu} {e:En}:vC x e=false↔zlI x e:=by
 unfold vC
 constructor
 ·intro h
  simp at h
  exact ⟨h.1,h.2⟩
 ·rintro ⟨h1,h2⟩
  simp [h1,h2]
theorem zgB {v:Ver}:zbh v=true↔vR v:=by
 unfold zbh
 simp only [Bool.and_eq_true,decide_eq_true_eq,List.all_eq_true,List.mem_range]
 constructor
 ·rintro ⟨⟨h1,h2⟩,h3⟩
  refine ⟨h1,h2,fun i g x hg hx=>?_⟩
  have:=h3 i (List.getElem?_eq_some_iff.1 hg).1
  unfold zbx at this
  rw [hg,hx] at this
  simp only [Bool.and_eq_true,decide_eq_true_eq,Bool.not_eq_true',List.any_eq_false] at this
  exact ⟨this.1,fun e he=>zam.1 (by simpa using this.2 e he)⟩
 ·rintro ⟨h1,h2,h3⟩
  refine ⟨⟨h1,h2⟩,fun i hi=>?_⟩
  unfold zbx
  split
  ·rename_i g x hg hx
   obtain ⟨h4,h5⟩:=h3 i g x hg hx
   simp only [Bool.and_eq_true,decide_eq_true_eq,Bool.not_eq_true',List.any_eq_false]
   exact ⟨h4,fun e he=>by simp [zam.2 (h5 e he)]⟩
  ·rfl
structure qK (w:Wor):Prop where
 ground:qB w=true
 current:0<=w.current∧w.current < w.zd.length
 zg:Go.Lim.isV w.zg=true
 bad:∀ r ∈ w.zg,jN w r=false
 ver:∀ (i:Nat) v,w.zd[i]?= some v->vR v∧v.jn=jM w.zg i
 lis:∀ (i:Nat) l,w.zc[i]?= some l->Go.Gat.isV l=true∧zZ w.zc l.name=i
theorem qG {w:Wor}:qw w=true↔qK w:=by
 unfold qw
 simp only [Bool.and_eq_true,decide_eq_true_eq,List.all_eq_true,List.mem_range,Bool.not_eq_true',List.any_eq_false]
 constructor
 ·rintro ⟨⟨⟨⟨⟨h1,h2⟩,h3⟩,h4⟩,h5⟩,h6⟩
  refine ⟨h1,h2,h3,fun r hr=>by simpa using h4 r hr,fun i v hv=>?_,fun i l hl=>?_⟩
  ·have:=h5 i (List.getElem?_eq_some_iff.1 hv).1
   unfold kP at this
   rw [hv] at this
   simp only [Bool.and_eq_true,beq_iff_eq] at this
   exact ⟨zgB.1 this.1,this.2⟩
  ·have:=h6 i (List.getElem?_eq_some_iff.1 hl).1
   unfold vS at this
   rw [hl] at this
   simpa using this
 ·rintro ⟨h1,h2,h3,h4,h5,h6⟩
  refine ⟨⟨⟨⟨⟨h1,h2⟩,h3⟩,fun r hr=>by simp [h4 r hr]⟩,fun i hi=>?_⟩,fun i hi=>?_⟩
  ·unfold kP
   split
   ·rename_i v hv
    obtain ⟨a,b⟩:=h5 i v hv
    simp [zgB.2 a,b]
   ·rfl
  ·unfold vS
   split
   ·rename_i l hl
    obtain ⟨a,b⟩:=h6 i l hl
    simp [a,b]
   ·rfl
theorem vR.few {v:Ver} (h:vR v):v.zm.length<=4∧∀ g ∈ v.zm,g.ends.length<=4∧1<=g.ends.length∧∀ e ∈ g.ends,Slp.isV e=true∧e.next.length<=4∧1<=e.next.length:=by
 have gn:=qY h.snap
 refine ⟨by have:=gn.zf.2;have:=h.len;omega,fun g hg=>?_⟩
 obtain ⟨i,hi⟩:=List.mem_iff_getElem?.1 hg
 have hlt:=(List.getElem?_eq_some_iff.1 hi).1
 obtain ⟨x,hx⟩:∃ x,v.snap.zf[i]?= some x:=⟨_,List.getElem?_eq_getElem (by have:=h.len;omega)⟩
 obtain ⟨h1,h2⟩:=h.grp i g x hi hx
 have gx:=gn.all x (List.mem_of_getElem? hx)
 refine ⟨by have:=gx.zV.2;omega,by have:=gx.zV.1;omega,fun e he=>?_⟩
 have ge:=h2 e he
 have gs:=gx.jR
 exact ⟨ge.is,by have:=ge.len;omega,by have:=ge.len;omega⟩
structure Grd (w:Wor):Prop where
 pins:1<=w.pins.length∧w.pins.length<=8
 counts:w.counts.length=w.pins.length∧∀ r ∈ w.counts,r.length=6
 zi:0<=w.zi∧w.zi<=1000000000000
 lock:w.lock=0∨w.lock=1
 pin:∀ p ∈ w.pins,0<=p∧p<=w.zi+1
theorem zQ {w:Wor}:qB w=true↔Grd w:=by
 unfold qB vP
 simp only [Bool.and_eq_true,Bool.or_eq_true,decide_eq_true_eq,List.all_eq_true,Bool.not_eq_true',List.any_eq_false,beq_iff_eq]
 constructor
 ·rintro ⟨⟨⟨⟨⟨⟨⟨h1,h2⟩,h3⟩,⟨h4,h5⟩,h6⟩,h7⟩,h8⟩,h9⟩,h10⟩
  exact ⟨⟨h1,h2⟩,⟨h3,h4⟩,⟨h7,h8⟩,h9,fun p hp=>by have:=h10 p hp;simp [y4] at this;omega⟩
 ·rintro ⟨⟨h1,h2⟩,⟨h3,h4⟩,⟨h7,h8⟩,h9,h10⟩
  exact ⟨⟨⟨⟨⟨⟨⟨h1,h2⟩,h3⟩,⟨h4,by omega⟩,by omega⟩,h7⟩,h8⟩,h9⟩,fun p hp=>by have:=h10 p hp;simp [y4];omega⟩
theorem zlX {N:Nat} {w:Wor} (h:qK w) (t:TyW N w) (hN:N<=100000000):ym w:=by
 have g:=zQ.1 h.ground
 refine ⟨by have:=g.pins;omega,⟨by have:=t.xj;omega,fun v hv=>?_⟩,by have:=t.lis;omega,⟨by have:=g.counts.1;have:=g.pins;omega,fun r hr=>by have:=g.counts.2 r hr;omega⟩,by have:=t.lim;omega⟩
 obtain ⟨i,hi⟩:=List.mem_iff_getElem?.1 hv
 have f:=(h.ver i v hi).1.few
 exact ⟨by omega,fun g hg=>⟨by have:=(f.2 g hg).1;omega,fun e he=>by have:=((f.2 g hg).2.2 e he).2;omega⟩⟩
theorem zec {N:Nat} {w:Wor} (h:qK w) (t:TyW N w) (hN:N<=100000000):OkW w:=by
 have g:=zQ.1 h.ground
 refine ⟨by have:=g.pins;omega,⟨by have:=t.xj;omega,fun v hv=>?_⟩,⟨by have:=t.lis;omega,t.okl⟩,⟨by have:=g.counts.1;have:=g.pins;omega,fun r hr=>by have:=g.counts.2 r hr;omega⟩,by have:=t.lim;omega⟩
 obtain ⟨i,hi⟩:=List.mem_iff_getElem?.1 hv
 have f:=(h.ver i v hi).1.few
 have o:=t.okv v hv
 exact ⟨o.1,by omega,fun g hg=>⟨by have:=(f.2 g hg).1;omega,(o.2 g hg).2⟩⟩
theorem zj0 {w:Wor} (h:qK w) {i:Nat} {v:Ver} (hv:w.zd[i]?= some v):zix v:=by
 have f:=(h.ver i v hv).1.few
 exact ⟨by omega,fun g hg=>by have:=(f.2 g hg).1;omega⟩
theorem yA {α:Type} (l:List α) (i:Nat) {x:α} (h:l[i]?= some x):l.set i x=l:=by
 obtain ⟨h1,rfl⟩:=List.getElem?_eq_some_iff.1 h
 exact List.set_getElem_self h1
end Go.Wor
namespace Go.Wor
open Go.Ab Go.Proofs Go.Hy Go.Gat Go.Nam Go.Hos Go.Con Go.Sna
abbrev zjy (f:FuncId) (w:Wor) (m:Mac) (r:Wor × Mac × Eve):Prop:=zb Tryz.prog f [] [Cw w,Cm m] (.tup [Cw r.1,Cm r.2.1,Ce r.2.2]) []
theorem xG.at_ {w:Wor} {m:Mac} {v:Ver} {g:Gr} {e:En} (su:xG w m v g e):AtE w m v g e:=⟨⟨⟨su.version.1,su.atv⟩,su.zl.1,su.atg⟩,su.end_.1,su.ate⟩
section
variable {N:Nat} {w:Wor} {m:Mac} {v:Ver} {g:Gr} {e:En} {r:Wor × Mac × Eve}
end
end Go.Wor
namespace Go.Wor
open Go.Ab Go.Proofs Go.Hy Go.Gat Go.Nam Go.Hos Go.Con Go.Sna
section
variable {N:Nat} {w:Wor} {m:Mac} {v:Ver} {g:Gr} {e:En} {r:Wor × Mac × Eve}
theorem zi1 {l:List Str} {s:Str} (h:l.any (fun x=>x == s)=true):x5 l (vh l s)=s:=by
 unfold vh
 cases hf:l.findIdx? (fun x=>x == s) with
 | none=>
  rw [List.findIdx?_eq_none_iff] at hf
  obtain ⟨x,hx,he⟩:=List.any_eq_true.1 h
  rw [hf x hx] at he
  cases he
 | some i=>
  obtain ⟨h1,h2,_⟩:=List.findIdx?_eq_some_iff_getElem.1 hf
  show x5 l ((i:Nat):Int)=s
  unfold x5
  rw [if_pos ⟨by omega,by simpa using h1⟩]
  simp only [Int.toNat_natCast,List.getElem?_eq_getElem h1,Option.getD_some]
  simpa using h2
theorem zi0 {l:List Clu} {s:Str} (h:vM l s=true):x4 l (zdy l s)=s:=by
 unfold vM at h
 unfold zdy
 cases hf:l.findIdx? (fun x=>x.name == s) with
 | none=>
  rw [List.findIdx?_eq_none_iff] at hf
  obtain ⟨x,hx,he⟩:=List.any_eq_true.1 h
  rw [hf x hx] at he
  cases he
 | some i=>
  obtain ⟨h1,h2,_⟩:=List.findIdx?_eq_some_iff_getElem.1 hf
  show x4 l ((i:Nat):Int)=s
  unfold x4
  rw [if_pos ⟨by omega,by simpa using h1⟩]
  simp only [Int.toNat_natCast,List.getElem?_eq_getElem h1,Option.map_some,Option.getD_some]
  simpa using h2
theorem ziI {c:Cfg} (h:(zY c).1=0):zai (qc c).1=c:=by
 obtain ⟨_,_,_,h4⟩:=zbo h
 unfold qc
 rw [if_neg (by omega)]
 obtain ⟨ls,rs,cs⟩:=c
 unfold zai
 simp only [List.map_map,Cfg.mk.injEq,true_and,and_true]
 refine List.ext_getElem? fun i=>?_
 rw [List.getElem?_map]
 cases hi:rs[i]? with
 | none=>rfl
 | some r=>
  obtain ⟨a,_,_,b⟩:=zjh (c:=⟨ls,rs,cs⟩) hi (zg6 h4 i (List.getElem?_eq_some_iff.1 hi).1)
  simp only [Option.map_some,Function.comp,Option.some.injEq]
  unfold zfl zaC
  dsimp only
  rw [zi1 a,zi0 b]
theorem wM {c:Cfg} (h:(zY c).1=0):yE (qc c).1=true:=by
 unfold yE
 rw [ziI h,h]
 rfl
theorem zaU (c:Cfg):(qc c).2.1=(zY c).1:=by
 unfold qc
 split
 ·rfl
 ·rename_i h
  simpa using (Decidable.of_not_not h).symm
theorem kM (c:Cfg):vW c=(zY c).1:=by
 unfold vW
 rw [zaU]
 split
 ·rfl
 ·rename_i h
  have h:(zY c).1=0:=Decidable.of_not_not h
  unfold zS
  rw [if_pos (wM h),h]
theorem zjq (su:xG w m v g e) (hs:qP w m=true) (t:TyW N w) (tm:TyM m) (hN:N<=100000000) (hk:m.op.kind=3) (h:kN w m=some r):zjy 154 w m r:=by
 have gw:=qG.1 su.world
 have sw:=zlX gw t hN
 have ok:=zec gw t hN
 have hl:=tm.listen
 unfold kN at h
 by_cases p:m.pc=0
 ·rw [if_pos p] at h
  by_cases q:vW m.op.config=0
  ·rw [if_pos q] at h
   cases h
   exact zgw w m sw ok hl p hs (tm.cfg hk) q
  ·rw [if_neg q] at h
   cases h
   exact zdI w m _ sw ok hl p hs (tm.cfg hk) (by rw [zaU,kM]) q
 rw [if_neg p] at h
 clear p
 by_cases p:m.pc=1
 ·rw [if_pos p] at h
  cases h
  exact zgx w m sw ok hl p hs
 rw [if_neg p] at h
 clear p
 by_cases p:m.pc=2
 ·rw [if_pos p] at h
  cases q:vj w m
  ·rw [q] at h
   cases h
   cases hx:w.zg with
   | nil=>have:=zft w m sw ok hl p hs q hx;rwa [hx] at this
   | cons x l=>have:=zgy w m x l sw ok hl p hs q hx;rwa [hx] at this
  ·rw [q] at h
   cases h
 rw [if_neg p] at h
 cases h
theorem xM (gw:qK w) {i:Nat} {x:Ret} (hx:w.zg[i]?= some x):0<=x.at_∧x.at_<=w.zi∧0<=x.version∧x.version < w.zd.length∧x.version≠w.current:=by
 have h1:=gw.bad x (List.mem_of_getElem? hx)
 have h2:=of_decide_eq_true (show decide (∀ i,(h:i < w.zg.length)->Go.Lim.okV w.zg i w.zg[i]=true)=true from gw.zg) i (List.getElem?_eq_some_iff.1 hx).1
 rw [(List.getElem?_eq_some_iff.1 hx).2] at h2
 unfold jN at h1
 unfold Go.Lim.okV at h2
 simp at h1 h2
 omega
theorem zig (h0:0<=m.i):zb Tryz.prog 232 [⟨1,28,8,[z7 w],0⟩,⟨1,43,44,[zM m],0⟩] [.agg [.ref 0 [] 8 0 0,.ref 1 [] 44 0 0]] (Ce (ldS w m).2.2) [⟨1,28,8,[z7 (ldS w m).1],0⟩,⟨1,43,44,[zM (ldS w m).2.1],0⟩]:=by
 unfold ldS
 cases hx:w.zc[m.i.toNat]? with
 | none=>exact wT w m (by have:=List.getElem?_eq_none_iff.1 hx;omega)
 | some l=>exact za4 w m l h0 hx
theorem zeG (su:xG w m v g e) (hs:qP w m=true) (t:TyW N w) (tm:TyM m) (hN:N<=100000000) (h:xH w m=some r):zjy 156 w m r:=by
 have gw:=qG.1 su.world
 have sw:=zlX gw t hN
 have ok:=zec gw t hN
 have hl:=tm.listen
 have av:=su.at_.toAtV
 unfold xH at h
 by_cases p:m.pc=0
 ·rw [if_pos p] at h
  by_cases q:w.lock=0
  ·rw [if_pos q] at h
   cases h
   (exact qs sw ok hl hs (q6 w m (by omega)) 0 _ rfl (fun _ _ _ _ _ _ _ _ _ _=>by rw [p];rfl) rfl (zdB w m q))
  ·rw [if_neg q] at h
   cases h
   (exact qs sw ok hl hs (q6 w m (by omega)) 0 _ rfl (fun _ _ _ _ _ _ _ _ _ _=>by rw [p];rfl) rfl (ze1 w m q))
 rw [if_neg p] at h
 clear p
 by_cases p:m.pc=1
 ·rw [if_pos p] at h
  cases h
  (exact qs sw ok hl hs (q6 w m (by omega)) 1 _ rfl (fun _ _ _ _ _ _ _ _ _ _=>by rw [p];rfl) rfl (Go.Wor.zb0 w m))
 rw [if_neg p] at h
 clear p
 by_cases p:m.pc=2
 ·rw [if_pos p] at h
  obtain ⟨x,hx,rfl⟩:=Option.map_eq_some_iff.1 h
  have hlt:=(List.getElem?_eq_some_iff.1 hx).1
  have si:=su.i
  exact qs sw ok hl hs (zhu w m p (by omega)) 2 _ rfl (fun _ _ _ _ _ _ _ _ _ _=>by rw [p];rfl) rfl (zdA w m x su.i hx)
 rw [if_neg p] at h
 clear p
 by_cases p:m.pc=3
 ·rw [if_pos p] at h
  by_cases q:w.zi=m.zi∧w.zi < 1000000000000
  ·rw [if_pos q] at h
   cases h
   (exact qs sw ok hl hs (q6 w m (by omega)) 3 _ rfl (fun _ _ _ _ _ _ _ _ _ _=>by rw [p];rfl) rfl (zag w m q.1 q.2))
  ·rw [if_neg q] at h
   cases h
   (exact qs sw ok hl hs (q6 w m (by omega)) 3 _ rfl (fun _ _ _ _ _ _ _ _ _ _=>by rw [p];rfl) rfl (zaV w m q))
 rw [if_neg p] at h
 clear p
 by_cases p:m.pc=4
 ·rw [if_pos p] at h
  cases hx:w.zg[m.i.toNat]? with
  | none=>
   rw [hx] at h
   cases h
   (exact qs sw ok hl hs (q6 w m (by omega)) 4 _ rfl (fun _ _ _ _ _ _ _ _ _ _=>by rw [p];rfl) rfl (wU (by have:=List.getElem?_eq_none_iff.1 hx;have:=su.i;omega) (zig (m:=atM m 8 0) (Int.le_refl _))))
  | some x=>
   rw [hx] at h
   cases h
   have la:=xM gw hx
   have ge:=(zQ.1 gw.ground).zi
   (exact qs sw ok hl hs (q6 w m (by omega)) 4 _ rfl (fun _ _ _ _ _ _ _ _ _ _=>by rw [p];rfl) rfl (zb1 w m x ⟨by omega,by omega⟩ su.i hx))
 rw [if_neg p] at h
 clear p
 by_cases p:m.pc=5
 ·rw [if_pos p] at h
  obtain ⟨v',hv',h⟩:=Option.bind_eq_some_iff.1 h
  obtain ⟨x,hx,rfl⟩:=Option.map_eq_some_iff.1 h
  have hlt:=(List.getElem?_eq_some_iff.1 hx).1
  have sk:=su.k
  exact qs sw ok hl hs (zhv w m v' (zj0 gw hv') p ⟨su.version.1,hv'⟩ (by omega)) 5 _ rfl (fun _ _ _ _ _ _ _ _ _ _=>by rw [p];rfl) rfl (za3 w m v' x (zj0 gw hv') ⟨su.version.1,hv'⟩ su.k hx)
 rw [if_neg p] at h
 clear p
 by_cases p:m.pc=6
 ·rw [if_pos p] at h
  obtain ⟨v',hv',h⟩:=Option.bind_eq_some_iff.1 h
  obtain ⟨x,hx,h⟩:=Option.bind_eq_some_iff.1 h
  split at h
  rotate_left
  ·cases h
  rename_i q
  cases h
  exact zeK sw ok hl hs (zhw w m x p su.i hx q.1 q.2) 6 _ rfl (fun _ _ _ _ _ _ _ _ _ _=>by rw [p];rfl) rfl (by rintro h0;rw [h0] at hv';simp at hv') (by rintro h0;rw [h0] at hx;simp at hx) (by simp) (by simp) (wR w m v' x ⟨su.version.1,hv'⟩ su.i hx)
 rw [if_neg p] at h
 clear p
 by_cases p:m.pc=8
 ·rw [if_pos p] at h
  cases h
  (exact qs sw ok hl hs (q6 w m (by omega)) 7 _ rfl (fun _ _ _ _ _ _ _ _ _ _=>by rw [p];rfl) rfl (zig su.i))
 rw [if_neg p] at h
 clear p
 by_cases p:m.pc=9
 ·rw [if_pos p] at h
  obtain ⟨x,hx,rfl⟩:=Option.map_eq_some_iff.1 h
  have hlt:=(List.getElem?_eq_some_iff.1 hx).1
  have si:=su.i
  exact qs sw ok hl hs (zhx w m p (by omega)) 8 _ rfl (fun _ _ _ _ _ _ _ _ _ _=>by rw [p];rfl) rfl (za5 w m x su.i hx)
 rw [if_neg p] at h
 clear p
 by_cases p:m.pc=10
 ·rw [if_pos p] at h
  obtain ⟨x,hx,h⟩:=Option.bind_eq_some_iff.1 h
  split at h
  rotate_left
  ·cases h
  rename_i q
  cases h
  exact zeL sw ok hl hs (zgb w m x p su.i hx q) 9 _ rfl (fun _ _ _ _ _ _ _ _ _ _=>by rw [p];rfl) rfl (by rintro h0;rw [h0] at hx;simp at hx) (by simp) (zhQ w m x su.i hx)
 rw [if_neg p] at h
 cases h
end
end Go.Wor
namespace Go.Wor
open Go.Ab Go.Proofs Go.Gat Go.Nam Go.Hos Go.Con Go.Sna Go.Pla
open Go.Hy hiding encI
end Go.Wor
