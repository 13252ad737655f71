import Derived.Test.YtkbnjgogjccmfaaGreatSY
import Derived.Test.YtkbnjgogjccmfaaGreatSG
import Derived.Test.YtkbnjgogjccmfaaGreatSH
import Derived.Test.YtkbnjgogjccmfaaGreatSZ
set_option linter.all false
set_option maxRecDepth 100000
set_option maxHeartbeats 4000000
namespace Go.Wor
open Go.Ab Go.Proofs Tryz Go.Hy Go.Gat Go.Nam Go.Hos Go.Con Go.Sna
def OA (w:Wor) (m:u3) (v:u9) (g:Gr) (e:En) (sw:qZ w) (ok:fm w) (hl:i64 m.listen) (hpc:m.pc=2) (hs:z6 w m=true) (hat:fk w m v g e) (hw:u64 m.word) (hh:u64 e.head) (hne:e.head≠m.word):
  to 97 [] [Cw w,Cm m] (.u7 [Cw w,Cm { m with pc:=0 },Ce (fx m v 5 8 (e.head % 4294967296 - 1))]) []:=by
 have a0:=hat.v0;have a1:=hat.tomX.row;have b0:=hat.g0;have b1:(v.zm.map zE)[m.zi.toNat]?= some (zE g):=by rw [dT,hat.eG];rfl
 have c0:=hat.e0;have c1:(g.ends.map zx)[m.end_.toNat]?= some (zx e):=by rw [dT,hat.eS];rfl
 refine ab func97 ?_;(repeat (first | refine uA ?_ | refine uB ?_))
 refine ah (zO w m ok hl) ?_;refine ⟨fun _=>dd ?_,fun h=>absurd ((hs).symm.trans h:true=false) ar⟩;(repeat (first | refine uA ?_ | refine uB ?_))
 refine td ?_
 refine ah (qy w sw) ?_;refine uE ?_;(refine ⟨a0,_,a1,dd ?_⟩)
 (refine ⟨b0,_,b1,dd ?_⟩)
 (refine ⟨c0,_,c1,dd ?_⟩)
 refine ah (Slp.qJ m.word hw) ?_;refine .inr ⟨⟨[0,1,5,6,7],[0,1],true⟩,au,fun _=>rfl,_,uH ?_,fun t2 H2 h=>h⟩;refine ⟨_,ai [] (Slp.qJ e.head hh),uH ?_⟩;refine ⟨_,ai [] (yZ w m v hat.tomX 1 8 (e.head % 4294967296 - 1)),uH ?_⟩;(refine ⟨uH ?_,trivial⟩);refine tc ?_
 (refine ⟨uH ?_,trivial⟩);refine tc ?_
 (refine ⟨_,_,.refl _,uH ?_⟩)
 (repeat (first | refine uA ?_ | refine uB ?_))
 refine uE ?_;refine ⟨fun _=>dd ?_,fun h=>absurd h (aq hne)⟩;refine wM.go rfl (uH ?_);refine .inl ⟨⟨false,[0,1,2],[5,1,6],[]⟩,au,uH ?_⟩;refine tc ?_
 exact uI
def NI (w:Wor) (m:u3) (v:u9) (g:Gr) (e:En) (hv:fk w m v g e) (he:u64 e.head) (hi:¬(0<=e.head % 4294967296 - 1∧e.head % 4294967296 - 1 < e.next.length)):
  to 147 [⟨1,37,8,[zJ w],0⟩,⟨1,69,44,[zD (m)],0⟩] [.agg tn] (Ce (fx m v 1 8 (e.head % 4294967296 - 1))) [⟨1,37,8,[zJ w],0⟩,⟨1,69,44,[zD (mq { m with word:=e.head } 4)],0⟩]:=by
 have ml:(e.next.map Go.Hy.encI).length=e.next.length:=dV ..;refine aa func147 ?_;refine DO [0,1] (kQ w m v g e hv) rfl rfl rfl rfl rfl rfl (dd ?_);refine ah (Slp.qJ e.head he) ?_;refine ⟨fun q1=>?_,fun q1=>?_⟩
 ·refine dd ?_;refine td ?_
  refine af [1] (vC { m with word:=e.head } 4) ?_;refine af [0,1] (kX w (mq { m with word:=e.head } 4) v ⟨hv.v0,hv.at_⟩ 1 8 (e.head % 4294967296 - 1)) ?_;exact cJ
 ·refine dd ?_;refine DO [0,1] (kQ w { m with word:=e.head } v g e ⟨⟨⟨hv.v0,hv.at_⟩,hv.g0,hv.eG⟩,hv.e0,hv.eS⟩) rfl rfl rfl rfl rfl rfl (dd ?_);rw [ml];refine ⟨fun q2=>?_,fun q2=>?_⟩
  ·refine dd ?_;refine td ?_
   refine af [1] (vC { m with word:=e.head } 4) ?_;refine af [0,1] (kX w (mq { m with word:=e.head } 4) v ⟨hv.v0,hv.at_⟩ 1 8 (e.head % 4294967296 - 1)) ?_;exact cJ
  ·exact absurd ⟨bU,by simp at q2;omega⟩ hi
abbrev mY:=Option (Wor × u3 × u6)
def Ae (w:Wor) (m:u3):mY:=
 if m.pc=0 then some (w,{ m with zn:=w.zn,pc:=1 },nX m (n4 w.zn))
 else if m.pc=1 then some (nv w m.zg.toNat (IntKind.i64.wrap (m.zn+1)),{ m with pc:=2 },nX m ⟨0,0,2,2,0,false,IntKind.i64.wrap (m.zn+1),false,false,false,wW⟩)
 else if m.pc=2 then some (w,{ m with zn:=w.zn,pc:=if w.zn=m.zn then 3 else 1 },nX m (n4 w.zn))
 else none
abbrev MB (x:eL):eL:={ x with zf:=IntKind.i64.wrap (x.zf+1) }
abbrev zC (x:Int):Int:=x % 4294967296 - 1
abbrev Bc (m:u3):eC:=⟨1,m.version,m.zi,m.end_,m.slot,m.listen,0,⟨0,0,0,0,0,0⟩⟩
def nC (w:Wor) (m:u3) (k pc:Int):mY:=match w.counts[m.zg.toNat]? with
 | none=>none
 | some r0=>match r0[k.toNat]? with
  | none=>none
  | some x=>some ({ w with counts:=w.counts.set m.zg.toNat (r0.set k.toNat (IntKind.u64.wrap (x+1))) },{ m with pc:=pc },eI m 3 10 k)
def iI (w:Wor) (m:u3) (f:eL->Wor × u3 × u6):mY:=if m.listen < 0 then none else (w.zd[m.listen.toNat]?).map f
def qg (w:Wor) (m:u3) (v:u9) (g:Gr) (e:En):mY:=
 if m.pc < 3 then Ae w m
 else if m.pc=3 then some (w,if zU w.zd m.op.listen < 0 then mq (AJ w m) 2 else AJ w m,Ig (eI m 1 3 w.current))
 else if m.pc=4 then iI w m fun x=>({ w with zd:=w.zd.set m.listen.toNat (MB x) },{ m with pc:=5 },eI m 3 5 (IntKind.i64.wrap (x.zf+1)))
 else if m.pc=5 then iI w m fun l=>(w,if l.drain then mq m 5 else xz m v,if l.drain then { eI m 1 4 1 with qQ:=true } else eI m 1 4 0)
 else if m.pc=6 then (v.snap.zk[m.zi.toNat]?).map fun c=>(lM w m v g e (IntKind.u64.wrap (g.zt+1)) e.head e.zf,DZ m c g.zt,fx m v 3 6 (IntKind.i64.wrap g.zt))
 else if m.pc=7 then some (w,{ m with i:=e.zf,pc:=8 },fx m v 1 7 e.zf)
 else if m.pc=8 then (g.ends[m.other.toNat]?).map fun e2=>(w,{ m with end_:=if e2.zf < m.i then m.other else m.end_,pc:=9 },fx m v 1 7 e2.zf)
 else if m.pc=9 then some (w,if 0<=zC e.head∧zC e.head < e.next.length then { m with word:=e.head,slot:=zC e.head,pc:=10 } else mq { m with word:=e.head } 4,fx m v 1 8 (zC e.head))
 else if m.pc=10 then (e.next[m.slot.toNat]?).map fun x=>(w,{ m with link:=x,pc:=11 },fx m v 1 9 x)
 else if m.pc=11 then (if e.head=m.word then some (lM w m v g e g.zt (Slp.qW m.word m.link) e.zf,{ m with pc:=12 },fx m v 4 8 m.slot) else some (w,{ m with pc:=9 },fx m v 5 8 (zC e.head)))
 else if m.pc=12 then some (lM w m v g e g.zt e.head (IntKind.i64.wrap (e.zf+1)),{ m with answer:=Bc m,pc:=20 },fx m v 3 7 (IntKind.i64.wrap (e.zf+1)))
 else if m.pc=20 then nC w m (mI m.answer.kind) 21
 else if m.pc=21 then nC w m 0 (if m.answer.kind=1∨m.listen < 0 then 23 else 22)
 else if m.pc=22 then iI w m fun x=>({ w with zd:=w.zd.set m.listen.toNat (o5 x) },{ m with pc:=23 },eI m 3 5 (IntKind.i64.wrap (x.zf - 1)))
 else if m.pc=23 then some (nv w m.zg.toNat 0,{ m with done:=true },{ CZ m with done:=true,answer:=m.answer })
 else none
def yv (w:Wor) (m:u3) (v:u9) (g:Gr) (e:En):mY:=
 if m.pc=0 then some (w,{ m with word:=e.head,pc:=1 },fx m v 1 8 (zC e.head))
 else if m.pc=1 then some (lM w m v g (vi m e) g.zt e.head e.zf,{ m with pc:=2 },fx m v 2 9 (zC m.word))
 else if m.pc=2 then (if e.head=m.word then some (lM w m v g e g.zt (Slp.qW m.word m.slot) e.zf,{ m with pc:=3 },{ fx m v 4 8 m.slot with qQ:=true }) else some (w,{ m with pc:=0 },fx m v 5 8 (zC e.head)))
 else if m.pc=3 then some (lM w m v g e g.zt e.head (IntKind.i64.wrap (e.zf - 1)),{ m with pc:=4 },fx m v 3 7 (IntKind.i64.wrap (e.zf - 1)))
 else if m.pc=4 then iI w m fun x=>({ w with zd:=w.zd.set m.listen.toNat (o5 x) },{ m with answer:=Hw m,done:=true },MP m x)
 else if m.pc=9 then some (w,{ m with answer:=iK 7,done:=true },MC m)
 else none
def va (w:Wor) (m:u3):mY:=
 if m.pc=0 then (if mn m.op.config=0 then some ({ w with current:=w.ze.length,ze:=w.ze++[y9 m.op.config] },iZ m w.current w.ze.length,{ eI m 6 3 w.ze.length with qQ:=true })
  else some (w,{ m with done:=true,answer:=oQ (mn m.op.config) },{ eI m 1 3 w.current with qQ:=true,done:=true,answer:=oQ (mn m.op.config) }))
 else if m.pc=1 then some (w,{ m with zn:=w.zn,pc:=2 },eI m 1 1 w.zn)
 else if m.pc=2 then (if wx w m then none else some ({ w with zr:=w.zr++[⟨m.version,m.zn,false⟩] },{ m with done:=true,answer:=Ad m },{ eI m 2 11 m.version with done:=true,answer:=Ad m }))
 else none
abbrev MZ (p:Int):eC:=⟨10,0,0,0,0,p,0,⟨0,0,0,0,0,0⟩⟩
def wh (w:Wor) (m:u3):mY:=
 if m.pc=0 then (if zU w.zd m.op.listen < 0 then some (w,{ m with done:=true,answer:=iK 7 },{ EN m with done:=true,answer:=iK 7 })
  else (w.zd[(zU w.zd m.op.listen).toNat]?).map fun x=>({ w with zd:=w.zd.set (zU w.zd m.op.listen).toNat (Go.Gat.nD x) },{ m with listen:=zU w.zd m.op.listen,done:=true,answer:=MZ (zU w.zd m.op.listen) },{ HO m with done:=true,answer:=MZ (zU w.zd m.op.listen) }))
 else none
def mE (w:Wor) (m:u3):Wor × u3 × u6:=match w.zd[m.i.toNat]? with
 | none=>({ w with lock:=0 },{ m with done:=true,answer:=CW 11 m.answer.n },{ eI m 2 14 0 with done:=true,answer:=CW 11 m.answer.n })
 | some l=>(w,Ah m l,EC m l)
def yA (w:Wor) (m:u3):mY:=
 if m.pc=0 then some (if w.lock=0 then ({ w with lock:=1 },{ m with pc:=1 },eI m 4 14 1) else (w,{ m with done:=true,answer:=iK 12 },{ eI m 5 14 1 with done:=true,answer:=iK 12 }))
 else if m.pc=1 then some (w,{ m with zn:=w.zn,pc:=2,i:=0 },eI m 1 1 w.zn)
 else if m.pc=2 then (w.pins[m.i.toNat]?).map fun p=>(w,n6 w m p,eI m 1 2 p)
 else if m.pc=3 then some (if w.zn=m.zn∧w.zn < 1000000000000 then ({ w with zn:=IntKind.i64.wrap (w.zn+1) },{ fM m 4 0 with zn:=IntKind.i64.wrap (w.zn+1) },eI m 4 1 (IntKind.i64.wrap (w.zn+1))) else (w,fM m 4 0,eI m 5 1 w.zn))
 else if m.pc=4 then some (match w.zr[m.i.toNat]? with | none=>mE w (fM m 8 0) | some r=>(w,n5 m r,eI m 1 11 r.version))
 else if m.pc=5 then (w.ze[m.version.toNat]?).bind fun v=>((yu v)[m.k.toNat]?).map fun e=>(w,oN m v e.zf,C5 m v e.zf)
 else if m.pc=6 then (w.ze[m.version.toNat]?).bind fun v=>(w.zr[m.i.toNat]?).bind fun r=>if r.version=m.version∧r.gone=false then
  some ({ w with ze:=w.ze.set m.version.toNat (oo v),zr:=w.zr.set m.i.toNat (wu r) },BK m,eI m 2 12 m.version) else none
 else if m.pc=8 then some (mE w m)
 else if m.pc=9 then (w.zd[m.i.toNat]?).map fun l=>(w,if l.zf=0 then { m with pc:=10 } else fM m 8 (IntKind.i64.wrap (m.i+1)),eI m 1 5 l.zf)
 else if m.pc=10 then (w.zd[m.i.toNat]?).bind fun l=>if l.drain then some ({ w with zd:=w.zd.set m.i.toNat (CK l) },fM m 8 (IntKind.i64.wrap (m.i+1)),eI m 2 13 1) else none
 else none
def vN (w:Wor) (m:u3):mY:=
 if m.pc=0∧m.k < 6 then (w.counts[m.i.toNat]?).bind fun r=>(r[m.k.toNat]?).map fun n=>(w,jm w m n,Bn w m n) else none
def vz (w:Wor) (m:u3):mY:=match w.ze[m.version.toNat]? with
 | none=>none
 | some v=>match v.zm[m.zi.toNat]? with
  | none=>none
  | some g=>match g.ends[m.end_.toNat]? with
   | none=>none
   | some e=>if m.op.kind=1 then qg w m v g e else if m.op.kind=2 then yv w m v g e else if m.op.kind=3 then va w m else if m.op.kind=4 then wh w m
    else if m.op.kind=5 then yA w m else if m.op.kind=6 then vN w m else none
structure iD (N:Nat) (w:Wor):Prop where
 iB:w.ze.length<=N
 ey:w.zd.length<=N
 ia:w.zr.length<=N
 fS:∀ v ∈ w.ze,nB v.snap∧∀ g ∈ v.zm,u64 g.zt∧∀ e ∈ g.ends,e.ok
 lJ:∀ l ∈ w.zd,l.ok
structure fe (m:u3):Prop where
 listen:i64 m.listen
 word:u64 m.word
 link: -1<=m.link∧m.link<=2147483646
 host:m.op.host.length < 1000000000000
 path:m.op.path.length < 1000000000000
 d0:i64 m.op.d0
 d1:i64 m.op.d1
 cfg:m.op.kind=3->xD m.op.config
 iN:m.op.kind=6->m.done=false->m.answer=wW
def Ja {c:fb} (h:(jg c).1=0):(vy c).1=0∧(xc (oC c.zd) c.zd.length).1=0∧(xc (mu c.zk) c.zk.length).1=0∧(xc (nz c) c.zR.length).1=0:=by
 unfold jg at h;split at h
 ·contradiction
 rename_i h1;split at h
 ·contradiction
 rename_i h2;split at h
 ·contradiction
 rename_i h3;split at h
 ·contradiction
 rename_i h4;exact ⟨aq h1,Decidable.of_not_not h2,Decidable.of_not_not h3,Decidable.of_not_not h4⟩
def Kq {c:fb} {i:Nat} {r:l8} (hr:c.zR[i]?= some r) (h:nz c i=0):c.zd.any (fun x=>x == r.listen)=true∧mV r.host=true∧mJ r.path=true∧n9 c.zk r.zi=true:=by
 unfold nz at h;rw [hr] at h;dsimp only at h;split at h
 ·cases h
 rename_i h1;split at h
 ·cases h
 rename_i h2;split at h
 ·cases h
 rename_i h3;split at h
 ·cases h
 rename_i h4;exact ⟨aq h1,aq h2,aq h3,aq h4⟩
def Sp {l:List eV} {i:Nat} {c:eV} (hc:l[i]?= some c) (h:mu l i=0):xJ c.name=true:=by
 unfold mu at h;rw [hc] at h;dsimp only at h;split at h
 ·cases h
 rename_i h1;simpa using h1
def R8:xJ []=false:=by decide
def Tl {s:Sna} (h:vn s=true) {r:iM} (hr:r ∈ s.rules):0<=r.zi∧r.zi < s.zk.length:=by
 have h:(jg (iF s)).1=0:=by unfold vn at h;simpa using h
 obtain ⟨_,_,h3,h4⟩:=Ja h;obtain ⟨i,hi⟩:=gA.1 hr;have hi':(iF s).zR[i]?= some (nR s r):=by unfold iF;simp only [dT,hi,gh]
 have hz:=D3 h4 i (dP.1 hi').1;obtain ⟨_,_,_,hn⟩:=Kq hi' hz;have hn:s.zk.any (fun c=>c.name == vx s.zk r.zi)=true:=hn;by_cases hb:0<=r.zi∧r.zi < s.zk.length
 ·exact hb
 ·unfold vx at hn;rw [dR hb] at hn;obtain ⟨c,hc,he⟩:=pQ.1 hn;obtain ⟨j,hj⟩:=gA.1 hc;have:=Sp hj (D3 h3 j (dP.1 hj).1);rw [show c.name=[] from aq he,R8] at this;cases this
def KR {s:Sna} (h:vn s=true) (n hh p:ec):0<=(og s n hh p).1∧∃ c,s.zk[(og s n hh p).1.toNat]?= some c:=by
 have g:=(jB h).zk.1;have zero:∃ c,s.zk[(0:Int).toNat]?= some c:=⟨s.zk[0]'aw,dQ aw⟩;unfold og;split
 ·exact ⟨gy _,zero⟩
 ·split
  ·exact ⟨gy _,zero⟩
  ·split
   ·rename_i r hr;have:=Tl h (dS hr);exact ⟨this.1,s.zk[r.zi.toNat]'aw,dQ aw⟩
   ·exact ⟨gy _,zero⟩
structure MJ (x:eV) (e:En):Prop where
 is:Slp.eF e=true
 len:(e.next.length:Int)=x.xP
structure mF (v:u9):Prop where
 snap:vn v.snap=true
 len:v.zm.length=v.snap.zk.length
 nZ:∀ (i:Nat) g x,v.zm[i]?= some g->v.snap.zk[i]?= some x->g.ends.length=x.zL.length∧∀ e ∈ g.ends,MJ x e
def IG {x:eV} {e:En}:od x e=false↔MJ x e:=by
 unfold od;constructor
 ·intro h;simp at h;exact ⟨h.1,h.2⟩
 ·rintro ⟨h1,h2⟩;simp [h1,h2]
def LB {v:u9}:mr v=true↔mF v:=by
 unfold mr;simp only [dY,gp,dZ,pN];constructor
 ·rintro ⟨⟨h1,h2⟩,h3⟩;refine ⟨h1,h2,fun i g x hg hx=>?_⟩;have:=h3 i (dP.1 hg).1;unfold o4 at this;rw [hg,hx] at this;simp only [dY,gp,pd,gU] at this;exact ⟨this.1,fun e he=>IG.1 (by simpa using this.2 e he)⟩
 ·rintro ⟨h1,h2,h3⟩;refine ⟨⟨h1,h2⟩,fun i hi=>?_⟩;unfold o4;split
  ·rename_i g x hg hx;obtain ⟨h4,h5⟩:=h3 i g x hg hx;simp only [dY,gp,pd,gU];exact ⟨h4,fun e he=>by simp [IG.2 (h5 e he)]⟩
  ·rfl
structure jO (w:Wor):Prop where
 ground:jX w=true
 current:0<=w.current∧w.current < w.ze.length
 zr:Go.Lim.eF w.zr=true
 bad:∀ r ∈ w.zr,yE w r=false
 eR:∀ (i:Nat) v,w.ze[i]?= some v->mF v∧v.qn=vw w.zr i
 ey:∀ (i:Nat) l,w.zd[i]?= some l->Go.Gat.eF l=true∧zU w.zd l.name=i
def ql {w:Wor}:xQ w=true↔jO w:=by
 unfold xQ;simp only [dY,gp,dZ,pN,pd,gU];constructor
 ·rintro ⟨⟨⟨⟨⟨h1,h2⟩,h3⟩,h4⟩,h5⟩,h6⟩;refine ⟨h1,h2,h3,fun r hr=>by simpa using h4 r hr,fun i v hv=>?_,fun i l hl=>?_⟩
  ·have:=h5 i (dP.1 hv).1;unfold np at this;rw [hv] at this;simp only [dY,gT] at this;exact ⟨LB.1 this.1,this.2⟩
  ·have:=h6 i (dP.1 hl).1;unfold wU at this;rw [hl] at this;simpa using this
 ·rintro ⟨h1,h2,h3,h4,h5,h6⟩;refine ⟨⟨⟨⟨⟨h1,h2⟩,h3⟩,fun r hr=>by simp [h4 r hr]⟩,fun i hi=>?_⟩,fun i hi=>?_⟩
  ·unfold np;split
   ·rename_i v hv;obtain ⟨a,b⟩:=h5 i v hv;simp [LB.2 a,b]
   ·rfl
  ·unfold wU;split
   ·rename_i l hl;obtain ⟨a,b⟩:=h6 i l hl;simp [a,b]
   ·rfl
def mF.fV {v:u9} (h:mF v):v.zm.length<=4∧∀ g ∈ v.zm,g.ends.length<=4∧1<=g.ends.length∧∀ e ∈ g.ends,Slp.eF e=true∧e.next.length<=4∧1<=e.next.length:=by
 have gn:=jB h.snap;refine ⟨by have:=gn.zk.2;have:=h.len;omega,fun g hg=>?_⟩;obtain ⟨i,hi⟩:=gA.1 hg;have u4:=(dP.1 hi).1;obtain ⟨x,hx⟩:∃ x,v.snap.zk[i]?= some x:=⟨_,dQ (by have:=h.len;omega)⟩;obtain ⟨h1,h2⟩:=h.nZ i g x hi hx;have gx:=gn.all x (dS hx);refine ⟨by have:=gx.zL.2;omega,by have:=gx.zL.1;omega,fun e he=>?_⟩;have ge:=h2 e he;have gs:=gx.xP;exact ⟨ge.is,by have:=ge.len;omega,by have:=ge.len;omega⟩
structure Na (w:Wor):Prop where
 pins:1<=w.pins.length∧w.pins.length<=8
 counts:w.counts.length=w.pins.length∧∀ r ∈ w.counts,r.length=6
 zn:0<=w.zn∧w.zn<=1000000000000
 lock:w.lock=0∨w.lock=1
 lK:∀ p ∈ w.pins,0<=p∧p<=w.zn+1
def zY {w:Wor}:jX w=true↔Na w:=by
 unfold jX vS;simp only [dY,pJ,gp,dZ,pd,gU,gT];constructor
 ·rintro ⟨⟨⟨⟨⟨⟨⟨h1,h2⟩,h3⟩,⟨h4,h5⟩,h6⟩,h7⟩,h8⟩,h9⟩,h10⟩;exact ⟨⟨h1,h2⟩,⟨h3,h4⟩,⟨h7,h8⟩,h9,fun p hp=>by have:=h10 p hp;simp [nG] at this;omega⟩
 ·rintro ⟨⟨h1,h2⟩,⟨h3,h4⟩,⟨h7,h8⟩,h9,h10⟩;exact ⟨⟨⟨⟨⟨⟨⟨h1,h2⟩,h3⟩,⟨h4,aw⟩,aw⟩,h7⟩,h8⟩,h9⟩,fun p hp=>by have:=h10 p hp;simp [nG];omega⟩
def Ay {N:Nat} {w:Wor} (h:jO w) (t:iD N w) (hN:N<=100000000):qZ w:=by
 have g:=zY.1 h.ground;refine ⟨by have:=g.pins;omega,⟨by have:=t.iB;omega,fun v hv=>?_⟩,by have:=t.ey;omega,⟨bV,fun r hr=>by have:=g.counts.2 r hr;omega⟩,by have:=t.ia;omega⟩;obtain ⟨i,hi⟩:=gA.1 hv;have f:=(h.eR i v hi).1.fV;exact ⟨aw,fun g hg=>⟨by have:=(f.2 g hg).1;omega,fun e he=>by have:=((f.2 g hg).2.2 e he).2;omega⟩⟩
def o7 {N:Nat} {w:Wor} (h:jO w) (t:iD N w) (hN:N<=100000000):fm w:=by
 have g:=zY.1 h.ground;refine ⟨by have:=g.pins;omega,⟨by have:=t.iB;omega,fun v hv=>?_⟩,⟨by have:=t.ey;omega,t.lJ⟩,⟨bV,fun r hr=>by have:=g.counts.2 r hr;omega⟩,by have:=t.ia;omega⟩;obtain ⟨i,hi⟩:=gA.1 hv;have f:=(h.eR i v hi).1.fV;have o:=t.fS v hv;exact ⟨o.1,aw,fun g hg=>⟨by have:=(f.2 g hg).1;omega,(o.2 g hg).2⟩⟩
def Ml {w:Wor} (h:jO w) {i:Nat} {v:u9} (hv:w.ze[i]?= some v):CT v:=by
 have f:=(h.eR i v hv).1.fV;exact ⟨aw,fun g hg=>by have:=(f.2 g hg).1;omega⟩
def WB {N:Nat} {w:Wor} {m:u3} (h:jO w) (t:iD N w) (tm:fe m) {i:Nat} {v:u9} (hv:w.ze[i]?= some v):EJ m v:=by
 have g:=(h.eR i v hv).1;have o:=(t.fS v (dS hv)).1;refine ⟨⟨o.zd.1,o.rules.1,fun r hr=>o.rules.2 r hr⟩,tm.host,tm.path,tm.d0,tm.d1,fun _=>?_⟩;obtain ⟨h0,c,hc⟩:=KR g.snap m.op.listen m.op.host m.op.path;exact ⟨h0,c,hc,by have:=((jB g.snap).all c (dS hc)).zL.2;omega⟩
def TZ {w:Wor} (h:jO w) {t:Int} (h0:0<=t) (h1:t < w.pins.length):∃ r,w.counts[t.toNat]?= some r∧r.length=6:=by
 have g:=zY.1 h.ground;have u4:t.toNat < w.counts.length:=by have:=g.counts.1;omega
 exact ⟨_,dQ u4,g.counts.2 _ (gS u4)⟩
def yI {α:Type} (l:List α) (i:Nat) {x:α} (h:l[i]?= some x):l.set i x=l:=by
 obtain ⟨h1,rfl⟩:=dP.1 h;exact List.set_getElem_self h1
def Rs {w:Wor} {m:u3} {v:u9} {g:Gr} {e:En} (hat:fk w m v g e):lM w m v g e g.zt e.head e.zf=w:=by
 unfold lM xp yJ qw;rw [yI g.ends _ hat.eS,yI v.zm _ hat.eG,yI w.ze _ hat.at_]
abbrev Aq (f:FuncId) (w:Wor) (m:u3) (r:Wor × u3 × u6):Prop:=to f [] [Cw w,Cm m] (.u7 [Cw r.1,Cm r.2.1,Ce r.2.2]) []
def Dn {w:Wor} {m:u3} {f:eL->Wor × u3 × u6} {r:Wor × u3 × u6} (h:iI w m f=some r):0<=m.listen∧∃ x,w.zd[m.listen.toNat]?= some x∧r=f x:=by
 unfold iI at h;split at h
 ·cases h
 obtain ⟨x,hx,rfl⟩:=gK.1 h;exact ⟨aw,x,hx,rfl⟩
def Jb {w:Wor} {m:u3} {k pc:Int} {r:Wor × u3 × u6} (h:nC w m k pc=some r):∃ r0 x,w.counts[m.zg.toNat]?= some r0∧r0[k.toNat]?= some x∧
  r=({ w with counts:=w.counts.set m.zg.toNat (r0.set k.toNat (IntKind.u64.wrap (x+1))) },{ m with pc:=pc },eI m 3 10 k):=by
 unfold nC at h;split at h
 ·cases h
 split at h
 ·cases h
 rename_i r0 h1 _ x h2;exact ⟨r0,x,h1,h2,(gk h).symm⟩
def qG.at_ {w:Wor} {m:u3} {v:u9} {g:Gr} {e:En} (su:qG w m v g e):fk w m v g e:=⟨⟨⟨su.version.1,su.eX⟩,su.zi.1,su.eG⟩,su.end_.1,su.eS⟩
def Q7 (n:Int):0<=mI n∧mI n<=5:=by
 unfold mI;split <;> omega
section
variable {N:Nat} {w:Wor} {m:u3} {v:u9} {g:Gr} {e:En} {r:Wor × u3 × u6}
def VK (su:qG w m v g e) (hs:z6 w m=true) (t:iD N w) (tm:fe m) (hN:N<=100000000) (h3:m.pc < 3) (h:Ae w m=some r):Aq 96 w m r:=by
 have gw:=ql.1 su.world;have sw:=Ay gw t hN;have ok:=o7 gw t hN;unfold Ae at h;split at h
 ·rename_i hpc;cases h
  exact Fj aw h3 (QM w m sw ok tm.listen hpc hs)
 split at h
 ·rename_i hpc;cases h
  exact Fj aw h3 (QN w m sw ok tm.listen hpc hs)
 split at h
 ·rename_i hpc;cases h
  exact Fj aw h3 (QO w m sw ok tm.listen hpc hs)
 ·cases h
def OW (su:qG w m v g e) (hs:z6 w m=true) (t:iD N w) (tm:fe m) (hN:N<=100000000) (h:qg w m v g e=some r):Aq 96 w m r:=by
 have gw:=ql.1 su.world;have sw:=Ay gw t hN;have ok:=o7 gw t hN;have hl:=tm.listen;have at_:=su.at_;have gv:=(gw.eR _ v su.eX).1;have oe:=(t.fS v (dS su.eX)).2 g (dS su.eG);have okE:=oe.2 e (dS su.eS)
 have hne:e.next≠[]:=by
  intro h0;have:=su.slot;rw [h0] at this;exact cQ
 unfold qg at h;by_cases h3:m.pc < 3
 ·rw [dU h3] at h;exact VK su hs t tm hN h3 h
 rw [dR h3] at h;by_cases p:m.pc=3
 ·rw [dU p] at h;cases h
  exact Tu sw ok hl p hs (Nw w m (by have:=t.ey;omega))
 rw [dR p] at h
 clear p
 by_cases p:m.pc=4
 ·rw [dU p] at h;obtain ⟨l0,x,hx,rfl⟩:=Dn h;exact Tv sw ok hl p hs l0 aj (O6 w m x l0 hx)
 rw [dR p] at h
 clear p
 by_cases p:m.pc=5
 ·rw [dU p] at h;obtain ⟨l0,x,hx,rfl⟩:=Dn h;exact Tw sw ok hl p hs l0 (NQ w m v at_.tomX (WB gw t tm su.eX) l0 hx)
 rw [dR p] at h
 clear p
 by_cases p:m.pc=6
 ·rw [dU p] at h;obtain ⟨c,hc,rfl⟩:=gK.1 h;exact Ty sw ok hl p hs at_ hne (Pg w m v g e c at_.ln hc oe.1 (by have:=((jB gv.snap).all c (dS hc)).zL.2;omega))
 rw [dR p] at h
 clear p
 by_cases p:m.pc=7
 ·rw [dU p] at h;cases h
  exact Tz sw ok hl p hs (Nv w m v g e at_)
 rw [dR p] at h
 clear p
 by_cases p:m.pc=8
 ·rw [dU p] at h;obtain ⟨e2,he2,rfl⟩:=gK.1 h;exact TC sw ok hl p hs (Nt w m v g e2 at_.toBI su.other.1 he2)
 rw [dR p] at h
 clear p
 by_cases p:m.pc=9
 ·rw [dU p] at h;by_cases q:0<=zC e.head∧zC e.head < e.next.length
  ·rw [dU q] at h;cases h
   exact KT sw ok hl p hs (NT w m v g e at_ okE.1 q)
  ·rw [dR q] at h;cases h
   exact KT sw ok hl p hs (NI w m v g e at_ okE.1 q)
 rw [dR p] at h
 clear p
 by_cases p:m.pc=10
 ·rw [dU p] at h;obtain ⟨x,hx,rfl⟩:=gK.1 h;exact SD sw ok hl p hs (NU w m v g e at_ su.slot.1 hx)
 rw [dR p] at h
 clear p
 by_cases p:m.pc=11
 ·rw [dU p] at h;by_cases q:e.head=m.word
  ·rw [dU q] at h;cases h
   exact Kc sw ok hl p hs at_ hne (NM w m v g e at_.ln tm.word tm.link.1 tm.link.2 q)
  ·rw [dR q] at h;cases h
   have:=Kc sw ok hl p hs at_ hne (NN w m v g e at_.ln tm.word tm.link.1 tm.link.2 okE.1 q)
   rwa [Rs at_] at this
 rw [dR p] at h
 clear p
 by_cases p:m.pc=12
 ·rw [dU p] at h;cases h
  exact SE sw ok hl p hs at_ hne (OH w m v g e at_.ln)
 rw [dR p] at h
 clear p
 by_cases p:m.pc=20
 ·rw [dU p] at h;obtain ⟨r0,x,hr,hx,rfl⟩:=Jb h;exact RM sw ok hl p hs su.zg.1 hr (by rintro rfl;simp at hx) aj (NO w m r0 x _ rfl su.zg.1 hr hx)
 rw [dR p] at h
 clear p
 by_cases p:m.pc=21
 ·rw [dU p] at h;obtain ⟨r0,x,hr,hx,rfl⟩:=Jb h;exact RN sw ok hl p hs su.zg.1 hr (by rintro rfl;simp at hx) aj (NW w m r0 x su.zg.1 hr hx)
 rw [dR p] at h
 clear p
 by_cases p:m.pc=22
 ·rw [dU p] at h;obtain ⟨l0,x,hx,rfl⟩:=Dn h;exact RO sw ok hl p hs l0 aj (PD w m x l0 hx)
 rw [dR p] at h
 clear p
 by_cases p:m.pc=23
 ·rw [dU p] at h;cases h
  exact RP sw ok hl p hs (Qg w m sw ok hl hs)
 rw [dR p] at h;cases h
def O8 (su:qG w m v g e) (hs:z6 w m=true) (t:iD N w) (tm:fe m) (hN:N<=100000000) (h:yv w m v g e=some r):Aq 97 w m r:=by
 have gw:=ql.1 su.world;have sw:=Ay gw t hN;have ok:=o7 gw t hN;have hl:=tm.listen;have at_:=su.at_;have gv:=(gw.eR _ v su.eX).1;have oe:=(t.fS v (dS su.eX)).2 g (dS su.eG);have okE:=oe.2 e (dS su.eS);have ln:=((gv.fV.2 g (dS su.eG)).2.2 e (dS su.eS)).2
 have hne:e.next≠[]:=by
  intro h0;rw [h0] at ln;simp at ln
 have sl:=su.slot;unfold yv at h;by_cases p:m.pc=0
 ·rw [dU p] at h;cases h
  exact P7 w m v g e sw ok hl p hs at_ tm.word okE.1
 rw [dR p] at h
 clear p
 by_cases p:m.pc=1
 ·rw [dU p] at h;cases h
  exact P8 w m v g e sw ok hl p hs at_ hne tm.word okE.1 sl.1 aw rfl rfl rfl
 rw [dR p] at h
 clear p
 by_cases p:m.pc=2
 ·rw [dU p] at h;by_cases q:e.head=m.word
  ·rw [dU q] at h;cases h
   exact P9 w m v g e sw ok hl p hs at_ hne tm.word okE.1 q aw aw rfl rfl rfl
  ·rw [dR q] at h;cases h
   exact OA w m v g e sw ok hl p hs at_ tm.word okE.1 q
 rw [dR p] at h
 clear p
 by_cases p:m.pc=3
 ·rw [dU p] at h;cases h
  exact Qa w m v g e sw ok hl p hs at_ hne tm.word okE.1 rfl rfl rfl
 rw [dR p] at h
 clear p
 by_cases p:m.pc=4
 ·rw [dU p] at h;obtain ⟨l0,x,hx,rfl⟩:=Dn h;exact Qb w m v g e x sw ok hl p hs at_ tm.word okE.1 l0 hx
 rw [dR p] at h
 clear p
 by_cases p:m.pc=9
 ·rw [dU p] at h;cases h
  exact Qc w m v g e sw ok hl p hs at_ tm.word okE.1
 rw [dR p] at h;cases h
end
section
variable {N:Nat} {w:Wor} {m:u3} {v:u9} {g:Gr} {e:En} {r:Wor × u3 × u6}
def RW {l:List ec} {s:ec} (h:l.any (fun x=>x == s)=true):kH l (yW l s)=s:=by
 unfold yW;cases hf:l.findIdx? (fun x=>x == s) with
 | none=>
  rw [gG] at hf;obtain ⟨x,hx,he⟩:=pQ.1 h;rw [hf x hx] at he;cases he
 | some i=>
  obtain ⟨h1,h2,_⟩:=gD.1 hf;show kH l ((i:Nat):Int)=s;unfold kH;rw [dU ⟨aw,aq h1⟩];simp only [uo,dQ h1,pj];simpa using h2
def RV {l:List eV} {s:ec} (h:n9 l s=true):vx l (nY l s)=s:=by
 unfold n9 at h;unfold nY;cases hf:l.findIdx? (fun x=>x.name == s) with
 | none=>
  rw [gG] at hf;obtain ⟨x,hx,he⟩:=pQ.1 h;rw [hf x hx] at he;cases he
 | some i=>
  obtain ⟨h1,h2,_⟩:=gD.1 hf;show vx l ((i:Nat):Int)=s;unfold vx;rw [dU ⟨aw,aq h1⟩];simp only [uo,dQ h1,gh,pj];simpa using h2
def Sj {c:fb} (h:(jg c).1=0):iF (jz c).1=c:=by
 obtain ⟨_,_,_,h4⟩:=Ja h;unfold jz;rw [dR aw];obtain ⟨ls,rs,cs⟩:=c;unfold iF;simp only [pX,fb.mk.injEq,sY,and_true];refine pq fun i=>?_
 rw [dT];cases hi:rs[i]? with
 | none=>rfl
 | some r=>
  obtain ⟨a,_,_,b⟩:=Kq (c:=⟨ls,rs,cs⟩) hi (D3 h4 i (dP.1 hi).1);simp only [gh,Function.comp,gC];unfold nR oy;dsimp only;rw [RW a,RV b]
def Fm {c:fb} (h:(jg c).1=0):vn (jz c).1=true:=by
 unfold vn;rw [Sj h,h]
 rfl
def FN (c:fb):(jz c).2.1=(jg c).1:=by
 unfold jz;split
 ·rfl
 ·rename_i h;simpa using (Decidable.of_not_not h).symm
def wZ (c:fb):mn c=(jg c).1:=by
 unfold mn;rw [FN];split
 ·rfl
 ·rename_i h;have h:(jg c).1=0:=Decidable.of_not_not h;unfold qR;rw [dU (Fm h),h]
def J4 (su:qG w m v g e) (hs:z6 w m=true) (t:iD N w) (tm:fe m) (hN:N<=100000000) (hk:m.op.kind=3) (h:va w m=some r):Aq 98 w m r:=by
 have gw:=ql.1 su.world;have sw:=Ay gw t hN;have ok:=o7 gw t hN;have hl:=tm.listen;unfold va at h;by_cases p:m.pc=0
 ·rw [dU p] at h;by_cases q:mn m.op.config=0
  ·rw [dU q] at h;cases h
   exact Pj w m sw ok hl p hs (tm.cfg hk) q
  ·rw [dR q] at h;cases h
   exact N7 w m _ sw ok hl p hs (tm.cfg hk) (by rw [FN,wZ]) q
 rw [dR p] at h
 clear p
 by_cases p:m.pc=1
 ·rw [dU p] at h;cases h
  exact Pk w m sw ok hl p hs
 rw [dR p] at h
 clear p
 by_cases p:m.pc=2
 ·rw [dU p] at h;cases q:wx w m
  ·rw [q] at h;cases h
   cases hx:w.zr with
   | nil=>have:=Pc w m sw ok hl p hs q hx;rwa [hx] at this
   | cons x l=>have:=Pl w m x l sw ok hl p hs q hx;rwa [hx] at this
  ·rw [q] at h;cases h
 rw [dR p] at h;cases h
def P2 (su:qG w m v g e) (hs:z6 w m=true) (t:iD N w) (tm:fe m) (hN:N<=100000000) (h:wh w m=some r):Aq 99 w m r:=by
 have gw:=ql.1 su.world;have sw:=Ay gw t hN;have ok:=o7 gw t hN;have hl:=tm.listen;unfold wh at h;by_cases p:m.pc=0
 ·rw [dU p] at h;by_cases q:zU w.zd m.op.listen < 0
  ·rw [dU q] at h;cases h
   exact Og w m sw ok hl p hs q
  ·rw [dR q] at h;obtain ⟨x,hx,rfl⟩:=gK.1 h;exact NX w m x sw ok hl p hs aw hx
 rw [dR p] at h;cases h
def Qx (su:qG w m v g e) (hs:z6 w m=true) (t:iD N w) (tm:fe m) (hN:N<=100000000) (hk:m.op.kind=6) (h:vN w m=some r):Aq 101 w m r:=by
 have gw:=ql.1 su.world;have sw:=Ay gw t hN;have ok:=o7 gw t hN;unfold vN at h;split at h
 rotate_left
 ·cases h
 rename_i p;obtain ⟨rw_,h1,h2⟩:=gP.1 h;obtain ⟨n,h3,rfl⟩:=gK.1 h2;exact stats_sound w m rw_ n sw ok tm.listen p.1 hs su.done ⟨su.i,h1,su.k,p.2,h3⟩ (tm.iN hk su.done)
def AN (gw:jO w) {i:Nat} {x:eJ} (hx:w.zr[i]?= some x):0<=x.at_∧x.at_<=w.zn∧0<=x.version∧x.version < w.ze.length∧x.version≠w.current:=by
 have h1:=gw.bad x (dS hx);have h2:=gd (show decide (∀ i,(h:i < w.zr.length)->Go.Lim.fj w.zr i w.zr[i]=true)=true from gw.zr) i (dP.1 hx).1;rw [(dP.1 hx).2] at h2;unfold yE at h1;unfold Go.Lim.fj at h2;simp at h1 h2;omega
def LU (h0:0<=m.i):to 131 [⟨1,37,8,[zJ w],0⟩,⟨1,69,44,[zD m],0⟩] [.agg tn] (Ce (mE w m).2.2) [⟨1,37,8,[zJ (mE w m).1],0⟩,⟨1,69,44,[zD (mE w m).2.1],0⟩]:=by
 unfold mE;cases hx:w.zd[m.i.toNat]? with
 | none=>exact Ny w m (by have:=pO.1 hx;omega)
 | some l=>exact NH w m l h0 hx
def OR (su:qG w m v g e) (hs:z6 w m=true) (t:iD N w) (tm:fe m) (hN:N<=100000000) (h:yA w m=some r):Aq 100 w m r:=by
 have gw:=ql.1 su.world;have sw:=Ay gw t hN;have ok:=o7 gw t hN;have hl:=tm.listen;have av:=su.at_.tomX;unfold yA at h;by_cases p:m.pc=0
 ·rw [dU p] at h;by_cases q:w.lock=0
  ·rw [dU q] at h;cases h
   (exact jK sw ok hl hs (xw w m aw) 0 _ rfl (fun _ _ _ _ _ _ _ _ _ _=>by rw [p];rfl) rfl (N5 w m q))
  ·rw [dR q] at h;cases h
   (exact jK sw ok hl hs (xw w m aw) 0 _ rfl (fun _ _ _ _ _ _ _ _ _ _=>by rw [p];rfl) rfl (OF w m q))
 rw [dR p] at h
 clear p
 by_cases p:m.pc=1
 ·rw [dU p] at h;cases h
  (exact jK sw ok hl hs (xw w m aw) 1 _ rfl (fun _ _ _ _ _ _ _ _ _ _=>by rw [p];rfl) rfl (Go.Wor.NR w m))
 rw [dR p] at h
 clear p
 by_cases p:m.pc=2
 ·rw [dU p] at h;obtain ⟨x,hx,rfl⟩:=gK.1 h;have u4:=(dP.1 hx).1;have si:=su.i;exact jK sw ok hl hs (Re w m p aw) 2 _ rfl (fun _ _ _ _ _ _ _ _ _ _=>by rw [p];rfl) rfl (N4 w m x su.i hx)
 rw [dR p] at h
 clear p
 by_cases p:m.pc=3
 ·rw [dU p] at h;by_cases q:w.zn=m.zn∧w.zn < 1000000000000
  ·rw [dU q] at h;cases h
   (exact jK sw ok hl hs (xw w m aw) 3 _ rfl (fun _ _ _ _ _ _ _ _ _ _=>by rw [p];rfl) rfl (Nu w m q.1 q.2))
  ·rw [dR q] at h;cases h
   (exact jK sw ok hl hs (xw w m aw) 3 _ rfl (fun _ _ _ _ _ _ _ _ _ _=>by rw [p];rfl) rfl (NL w m q))
 rw [dR p] at h
 clear p
 by_cases p:m.pc=4
 ·rw [dU p] at h;cases hx:w.zr[m.i.toNat]? with
  | none=>
   rw [hx] at h;cases h
   (exact jK sw ok hl hs (xw w m aw) 4 _ rfl (fun _ _ _ _ _ _ _ _ _ _=>by rw [p];rfl) rfl (Nz (by have:=pO.1 hx;have:=su.i;omega) (LU (m:=fM m 8 0) (gy _))))
  | some x=>
   rw [hx] at h;cases h
   have la:=AN gw hx;have ge:=(zY.1 gw.ground).zn
   (exact jK sw ok hl hs (xw w m aw) 4 _ rfl (fun _ _ _ _ _ _ _ _ _ _=>by rw [p];rfl) rfl (NS w m x ⟨aw,aw⟩ su.i hx))
 rw [dR p] at h
 clear p
 by_cases p:m.pc=5
 ·rw [dU p] at h;obtain ⟨v',hv',h⟩:=gP.1 h;obtain ⟨x,hx,rfl⟩:=gK.1 h;have u4:=(dP.1 hx).1;have sk:=su.k;exact jK sw ok hl hs (Rf w m v' (Ml gw hv') p ⟨su.version.1,hv'⟩ aw) 5 _ rfl (fun _ _ _ _ _ _ _ _ _ _=>by rw [p];rfl) rfl (NG w m v' x (Ml gw hv') ⟨su.version.1,hv'⟩ su.k hx)
 rw [dR p] at h
 clear p
 by_cases p:m.pc=6
 ·rw [dU p] at h;obtain ⟨v',hv',h⟩:=gP.1 h;obtain ⟨x,hx,h⟩:=gP.1 h;split at h
  rotate_left
  ·cases h
  rename_i q;cases h
  exact Ox sw ok hl hs (Rg w m x p su.i hx q.1 q.2) 6 _ rfl (fun _ _ _ _ _ _ _ _ _ _=>by rw [p];rfl) rfl (by rintro h0;rw [h0] at hv';simp at hv') (by rintro h0;rw [h0] at hx;simp at hx) aj aj (Dg w m v' x ⟨su.version.1,hv'⟩ su.i hx)
 rw [dR p] at h
 clear p
 by_cases p:m.pc=8
 ·rw [dU p] at h;cases h
  (exact jK sw ok hl hs (xw w m aw) 7 _ rfl (fun _ _ _ _ _ _ _ _ _ _=>by rw [p];rfl) rfl (LU su.i))
 rw [dR p] at h
 clear p
 by_cases p:m.pc=9
 ·rw [dU p] at h;obtain ⟨x,hx,rfl⟩:=gK.1 h;have u4:=(dP.1 hx).1;have si:=su.i;exact jK sw ok hl hs (Rh w m p aw) 8 _ rfl (fun _ _ _ _ _ _ _ _ _ _=>by rw [p];rfl) rfl (NJ w m x su.i hx)
 rw [dR p] at h
 clear p
 by_cases p:m.pc=10
 ·rw [dU p] at h;obtain ⟨x,hx,h⟩:=gP.1 h;split at h
  rotate_left
  ·cases h
  rename_i q;cases h
  exact Oy sw ok hl hs (PF w m x p su.i hx q) 9 _ rfl (fun _ _ _ _ _ _ _ _ _ _=>by rw [p];rfl) rfl (by rintro h0;rw [h0] at hx;simp at hx) aj (Qv w m x su.i hx)
 rw [dR p] at h;cases h
end
end Go.Wor
namespace Go.Wor
open Go.Ab Go.Proofs Tryz Go.Gat Go.Nam Go.Hos Go.Con Go.Sna Go.Pla
open Go.Hy hiding encI
abbrev Ub (w:Wor) (m:u3) (r:Wor × u3 × u6):Prop:=to 47 [] [Sw w,Sm m] (Sr r.1 r.2.1 r.2.2) []
def QP {N:Nat} {w:Wor} {m:u3} {r:Wor × u3 × u6} (hs:z6 w m=true) (t:iD N w) (tm:fe m) (hN:N<=100000000) (h:vz w m=some r):Ub w m r:=by
 obtain ⟨v,g,e,su⟩:=y8 hs;unfold vz at h;rw [su.eX] at h;dsimp only at h;rw [su.eG] at h;dsimp only at h;rw [su.eS] at h;dsimp only at h;by_cases k:m.op.kind=1
 ·rw [dU k] at h;exact Pv k (OW su hs t tm hN h)
 rw [dR k] at h
 clear k
 by_cases k:m.op.kind=2
 ·rw [dU k] at h;exact Pw k (O8 su hs t tm hN h)
 rw [dR k] at h
 clear k
 by_cases k:m.op.kind=3
 ·rw [dU k] at h;exact E4 k (J4 su hs t tm hN k h)
 rw [dR k] at h
 clear k
 by_cases k:m.op.kind=4
 ·rw [dU k] at h;exact Px k (P2 su hs t tm hN h)
 rw [dR k] at h
 clear k
 by_cases k:m.op.kind=5
 ·rw [dU k] at h;exact Py k (OR su hs t tm hN h)
 rw [dR k] at h
 clear k
 by_cases k:m.op.kind=6
 ·rw [dU k] at h;exact Pz k (Qx su hs t tm hN k h)
 rw [dR k] at h;cases h
end Go.Wor
