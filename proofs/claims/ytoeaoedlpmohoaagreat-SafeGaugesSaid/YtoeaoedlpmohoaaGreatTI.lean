import Derived.Test.YtoeaoedlpmohoaaGreatTY
import Derived.Test.YtoeaoedlpmohoaaGreatTG
import Derived.Test.YtoeaoedlpmohoaaGreatTH
import Derived.Test.YtoeaoedlpmohoaaGreatTZ
set_option linter.all false
set_option maxRecDepth 100000
set_option maxHeartbeats 4000000
namespace Go.Wor
open Go.Ab Go.Proofs Tryz Go.Hy Go.Gat Go.Nam Go.Hos Go.Con Go.Sna
def R3(w:Wor)(m:fi)(v:fp)(g:Gr)(e:En)(sw:jd w)(ok:ir w)(hl:i64 m.listen)(hpc:m.pc=2)(hs:qd w m=true)(hat:ic w m v g e)(hw:u64 m.word)(hh:u64 e.head)(hne:e.head≠m.word):
  tj 127 [] [Cw w,Cm m] (.fq [Cw w,Cm {m with pc:=0},Ce (iz m v 5 8 (e.head%4294967296-1))]) []:=by
 have a0:=hat.v0;have a1:=hat.tooT.row;have b0:=hat.g0;have b1:(v.zo.map zE)[m.zg.toNat]?=some (zE g):=by rw[gf,hat.fG];rfl
 have c0:=hat.e0;have c1:(g.ends.map zA)[m.end_.toNat]?=some (zA e):=by rw[gf,hat.fP];rfl
 refine ab func127 ?_;(repeat (first|refine uA ?_|refine uB ?_))
 refine ah (zP w m ok hl) ?_;refine⟨λ_=>dd ?_,λh=>absurd ((hs).symm.trans h:true=false) ar⟩;(repeat (first|refine uA ?_|refine uB ?_))
 refine hZ ?_
 refine ah (qC w sw) ?_;refine uE ?_;(refine⟨a0,_,a1,dd ?_⟩)
 (refine⟨b0,_,b1,dd ?_⟩)
 (refine⟨c0,_,c1,dd ?_⟩)
 refine ah (Slp.qN m.word hw) ?_;refine .inr ⟨⟨[0,1,5,6,7],[0,1],true⟩,au,λ_=>J,_,uH ?_,λt2 H2 h=>h⟩;refine⟨_,ai [] (Slp.qN e.head hh),uH ?_⟩;refine⟨_,ai [] (vp w m v hat.tooT 1 8 (e.head%4294967296-1)),uH ?_⟩;(refine⟨uH ?_,trivial⟩);refine hU ?_
 (refine⟨uH ?_,trivial⟩);refine hU ?_
 (refine⟨_,_,.refl _,uH ?_⟩)
 (repeat (first|refine uA ?_|refine uB ?_))
 refine uE ?_;refine⟨λ_=>dd ?_,λh=>absurd h (aq hne)⟩;refine nn.go J (uH ?_);refine .inl ⟨⟨false,[0,1,2],[5,1,6],[]⟩,au,uH ?_⟩;refine hU ?_
 exact uI
def QX(w:Wor)(m:fi)(v:fp)(g:Gr)(e:En)(hv:ic w m v g e)(he:u64 e.head)(hi:¬(0<=e.head%4294967296-1/\e.head%4294967296-1<e.next.length)):
  tj 190 [oW w,oM m] [.agg tf] (Ce (iz m v 1 8 (e.head%4294967296-1))) [oW w,oM (nO {m with word:=e.head} 4)]:=by
 have ml:(e.next.map Go.Hy.encI).length=e.next.length:=gu ..;refine aa func190 ?_;refine F1 [0,1] (wH w m v g e hv) J J J J J J (dd ?_);refine ah (Slp.qN e.head he) ?_;refine⟨λq1=>?_,λq1=>?_⟩
 ·refine dd ?_;refine hZ ?_
  refine af [1] (km {m with word:=e.head} 4) ?_;refine af [0,1] (wR w (nO {m with word:=e.head} 4) v ⟨hv.v0,hv.at_⟩ 1 8 (e.head%4294967296-1)) ?_;exact cN
 ·refine dd ?_;refine F1 [0,1] (wH w {m with word:=e.head} v g e ⟨⟨⟨hv.v0,hv.at_⟩,hv.g0,hv.fG⟩,hv.e0,hv.fP⟩) J J J J J J (dd ?_);rw[ml];refine⟨λq2=>?_,λq2=>?_⟩
  ·refine dd ?_;refine hZ ?_
   refine af [1] (km {m with word:=e.head} 4) ?_;refine af [0,1] (wR w (nO {m with word:=e.head} 4) v ⟨hv.v0,hv.at_⟩ 1 8 (e.head%4294967296-1)) ?_;exact cN
  ·exact absurd ⟨bU,by simp at q2;omega⟩ hi
abbrev oU:=Option (Wor×fi×fk)
def Bw(w:Wor)(m:fi):oU:=
 if m.pc=0 then some (w,{m with zl:=w.zl,pc:=1},AN m (AV w.zl))
 else if m.pc=1 then some (nD w m.zf.toNat (IntKind.i64.wrap (m.zl+1)),{m with pc:=2},AN m ⟨0,0,2,2,0,false,IntKind.i64.wrap (m.zl+1),false,false,false,nh⟩)
 else if m.pc=2 then some (w,{m with zl:=w.zl,pc:=if w.zl=m.zl then 3 else 1},AN m (AV w.zl))
 else none
abbrev PO(x:fI):fI:={x with zi:=IntKind.i64.wrap (x.zi+1)}
abbrev zB(x:Int):Int:=x%4294967296-1
abbrev C1(m:fi):fA:=⟨1,m.version,m.zg,m.end_,m.slot,m.listen,0,⟨0,0,0,0,0,0⟩⟩
def vH(w:Wor)(m:fi)(k pc:Int):oU:=match w.counts[m.zf.toNat]? with
 |none=>none
 |some r0=>match r0[k.toNat]? with
  |none=>none
  |some x=>some ({w with counts:=w.counts.set m.zf.toNat (r0.set k.toNat (IntKind.u64.wrap (x+1)))},{m with pc:=pc},fK m 3 10 k)
def iU(w:Wor)(m:fi)(f:fI->Wor×fi×fk):oU:=if m.listen<0 then none else (w.ze[m.listen.toNat]?).map f
def qj(w:Wor)(m:fi)(v:fp)(g:Gr)(e:En):oU:=
 if m.pc<3 then Bw w m
 else if m.pc=3 then some (w,if zU w.ze m.op.listen<0 then nO (CD w m) 2 else CD w m,KJ (fK m 1 3 w.current))
 else if m.pc=4 then iU w m λx=>({w with ze:=w.ze.set m.listen.toNat (PO x)},{m with pc:=5},fK m 3 5 (IntKind.i64.wrap (x.zi+1)))
 else if m.pc=5 then iU w m λl=>(w,if l.drain then nO m 5 else xd m v,if l.drain then {fK m 1 4 1 with qY:=true} else fK m 1 4 0)
 else if m.pc=6 then (v.snap.zn[m.zg.toNat]?).map λc=>(mU w m v g e (IntKind.u64.wrap (g.zu+1)) e.head e.zi,Gb m c g.zu,iz m v 3 6 (IntKind.i64.wrap g.zu))
 else if m.pc=7 then some (w,{m with i:=e.zi,pc:=8},iz m v 1 7 e.zi)
 else if m.pc=8 then (g.ends[m.other.toNat]?).map λe2=>(w,{m with end_:=if e2.zi<m.i then m.other else m.end_,pc:=9},iz m v 1 7 e2.zi)
 else if m.pc=9 then some (w,if 0<=zB e.head/\zB e.head<e.next.length then {m with word:=e.head,slot:=zB e.head,pc:=10} else nO {m with word:=e.head} 4,iz m v 1 8 (zB e.head))
 else if m.pc=10 then (e.next[m.slot.toNat]?).map λx=>(w,{m with link:=x,pc:=11},iz m v 1 9 x)
 else if m.pc=11 then (if e.head=m.word then some (mU w m v g e g.zu (Slp.ja m.word m.link) e.zi,{m with pc:=12},iz m v 4 8 m.slot) else some (w,{m with pc:=9},iz m v 5 8 (zB e.head)))
 else if m.pc=12 then some (mU w m v g e g.zu e.head (IntKind.i64.wrap (e.zi+1)),{m with answer:=C1 m,pc:=20},iz m v 3 7 (IntKind.i64.wrap (e.zi+1)))
 else if m.pc=20 then vH w m (Ac m.answer.kind) 21
 else if m.pc=21 then vH w m 0 (if m.answer.kind=1\/m.listen<0 then 23 else 22)
 else if m.pc=22 then iU w m λx=>({w with ze:=w.ze.set m.listen.toNat (BT x)},{m with pc:=23},fK m 3 5 (IntKind.i64.wrap (x.zi-1)))
 else if m.pc=23 then some (nD w m.zf.toNat 0,{m with done:=true},{ES m with done:=true,answer:=m.answer})
 else none
def j9(w:Wor)(m:fi)(v:fp)(g:Gr)(e:En):oU:=
 if m.pc=0 then some (w,{m with word:=e.head,pc:=1},iz m v 1 8 (zB e.head))
 else if m.pc=1 then some (mU w m v g (vQ m e) g.zu e.head e.zi,{m with pc:=2},iz m v 2 9 (zB m.word))
 else if m.pc=2 then (if e.head=m.word then some (mU w m v g e g.zu (Slp.ja m.word m.slot) e.zi,{m with pc:=3},{iz m v 4 8 m.slot with qY:=true}) else some (w,{m with pc:=0},iz m v 5 8 (zB e.head)))
 else if m.pc=3 then some (mU w m v g e g.zu e.head (IntKind.i64.wrap (e.zi-1)),{m with pc:=4},iz m v 3 7 (IntKind.i64.wrap (e.zi-1)))
 else if m.pc=4 then iU w m λx=>({w with ze:=w.ze.set m.listen.toNat (BT x)},{m with answer:=JY m,done:=true},PH m x)
 else if m.pc=9 then some (w,{m with answer:=mj 7,done:=true},PQ m)
 else none
def wy(w:Wor)(m:fi):oU:=
 if m.pc=0 then (if Ag m.op.config=0 then some ({w with current:=w.zd.length,zd:=w.zd++[nU m.op.config]},DE m w.current w.zd.length,{fK m 6 3 w.zd.length with qY:=true})
  else some (w,{m with done:=true,answer:=BC (Ag m.op.config)},{fK m 1 3 w.current with qY:=true,done:=true,answer:=BC (Ag m.op.config)}))
 else if m.pc=1 then some (w,{m with zl:=w.zl,pc:=2},fK m 1 1 w.zl)
 else if m.pc=2 then (if oA w m then none else some ({w with zp:=w.zp++[⟨m.version,m.zl,false⟩]},{m with done:=true,answer:=Dw m},{fK m 2 11 m.version with done:=true,answer:=Dw m}))
 else none
abbrev P7(p:Int):fA:=⟨10,0,0,0,0,p,0,⟨0,0,0,0,0,0⟩⟩
def yX(w:Wor)(m:fi):oU:=
 if m.pc=0 then (if zU w.ze m.op.listen<0 then some (w,{m with done:=true,answer:=mj 7},{Hb m with done:=true,answer:=mj 7})
  else (w.ze[(zU w.ze m.op.listen).toNat]?).map λx=>({w with ze:=w.ze.set (zU w.ze m.op.listen).toNat (Go.Gat.AD x)},{m with listen:=zU w.ze m.op.listen,done:=true,answer:=P7 (zU w.ze m.op.listen)},{Kf m with done:=true,answer:=P7 (zU w.ze m.op.listen)}))
 else none
def iX(w:Wor)(m:fi):Wor×fi×fk:=match w.ze[m.i.toNat]? with
 |none=>({w with lock:=0},{m with done:=true,answer:=EI 11 m.answer.n},{fK m 2 14 0 with done:=true,answer:=EI 11 m.answer.n})
 |some l=>(w,BA m l,GL m l)
def jY(w:Wor)(m:fi):oU:=
 if m.pc=0 then some (if w.lock=0 then ({w with lock:=1},{m with pc:=1},fK m 4 14 1) else (w,{m with done:=true,answer:=mj 12},{fK m 5 14 1 with done:=true,answer:=mj 12}))
 else if m.pc=1 then some (w,{m with zl:=w.zl,pc:=2,i:=0},fK m 1 1 w.zl)
 else if m.pc=2 then (w.pins[m.i.toNat]?).map λp=>(w,oY w m p,fK m 1 2 p)
 else if m.pc=3 then some (if w.zl=m.zl/\w.zl<1000000000000 then ({w with zl:=IntKind.i64.wrap (w.zl+1)},{iI m 4 0 with zl:=IntKind.i64.wrap (w.zl+1)},fK m 4 1 (IntKind.i64.wrap (w.zl+1))) else (w,iI m 4 0,fK m 5 1 w.zl))
 else if m.pc=4 then some (match w.zp[m.i.toNat]? with|none=>iX w (iI m 8 0)|some r=>(w,Ax m r,fK m 1 11 r.version))
 else if m.pc=5 then (w.zd[m.version.toNat]?).bind λv=>((xc v)[m.k.toNat]?).map λe=>(w,oq m v e.zi,EU m v e.zi)
 else if m.pc=6 then (w.zd[m.version.toNat]?).bind λv=>(w.zp[m.i.toNat]?).bind λr=>if r.version=m.version/\r.gone=false then
  some ({w with zd:=w.zd.set m.version.toNat (wj v),zp:=w.zp.set m.i.toNat (vL r)},DC m,fK m 2 12 m.version) else none
 else if m.pc=8 then some (iX w m)
 else if m.pc=9 then (w.ze[m.i.toNat]?).map λl=>(w,if l.zi=0 then {m with pc:=10} else iI m 8 (IntKind.i64.wrap (m.i+1)),fK m 1 5 l.zi)
 else if m.pc=10 then (w.ze[m.i.toNat]?).bind λl=>if l.drain then some ({w with ze:=w.ze.set m.i.toNat (EG l)},iI m 8 (IntKind.i64.wrap (m.i+1)),fK m 2 13 1) else none
 else none
def yF(w:Wor)(m:fi):oU:=
 if m.pc=0/\m.k<6 then (w.counts[m.i.toNat]?).bind λr=>(r[m.k.toNat]?).map λn=>(w,ju w m n,Dk w m n) else none
def vV(w:Wor)(m:fi):oU:=match w.zd[m.version.toNat]? with
 |none=>none
 |some v=>match v.zo[m.zg.toNat]? with
  |none=>none
  |some g=>match g.ends[m.end_.toNat]? with
   |none=>none
   |some e=>if m.op.kind=1 then qj w m v g e else if m.op.kind=2 then j9 w m v g e else if m.op.kind=3 then wy w m else if m.op.kind=4 then yX w m
    else if m.op.kind=5 then jY w m else if m.op.kind=6 then yF w m else none
structure mw(N:Nat)(w:Wor):Prop where
 iW:w.zd.length<=N
 fC:w.ze.length<=N
 lim:w.zp.length<=N
 lq:∀v∈w.zd,AA v.snap/\∀g∈v.zo,u64 g.zu/\∀e∈g.ends,e.ok
 na:∀l∈w.ze,l.ok
structure iq(m:fi):Prop where
 listen:i64 m.listen
 word:u64 m.word
 link: -1<=m.link/\m.link<=2147483646
 host:m.op.host.length<1000000000000000
 path:m.op.path.length<1000000000000000
 d0:i64 m.op.d0
 d1:i64 m.op.d1
 cfg:m.op.kind=3->ye m.op.config
 mM:m.op.kind=6->m.done=false->m.answer=nh
def LG{c:ia}(h:(jn c).1=0):(vx c).1=0/\(xp (Bv c.ze) c.ze.length).1=0/\(xp (n4 c.zn) c.zn.length).1=0/\(xp (As c) c.zM.length).1=0:=by
 unfold jn at h;split at h
 ·contradiction
 rename_i h1;split at h
 ·contradiction
 rename_i h2;split at h
 ·contradiction
 rename_i h3;split at h
 ·contradiction
 rename_i h4;exact⟨aq h1,Decidable.of_not_not h2,Decidable.of_not_not h3,Decidable.of_not_not h4⟩
def Nj{c:ia}{i:Nat}{r:nJ}(hr:c.zM[i]?=some r)(h:As c i=0):c.ze.any (λx=>x == r.listen)=true/\oK r.host=true/\oB r.path=true/\A3 c.zn r.zg=true:=by
 unfold As at h;rw[hr]at h;dsimp only at h;split at h
 ·cases h
 rename_i h1;split at h
 ·cases h
 rename_i h2;split at h
 ·cases h
 rename_i h3;split at h
 ·cases h
 rename_i h4;exact⟨aq h1,aq h2,aq h3,aq h4⟩
def VX{l:List fV}{i:Nat}{c:fV}(hc:l[i]?=some c)(h:n4 l i=0):xW c.name=true:=by
 unfold n4 at h;rw[hc]at h;dsimp only at h;split at h
 ·cases h
 rename_i h1;simpa using h1
def VR:xW []=false:=by decide
def Ws{s:Sna}(h:vU s=true){r:mu}(hr:r∈s.rules):0<=r.zg/\r.zg<s.zn.length:=by
 have h:(jn (mn s)).1=0:=by unfold vU at h;simpa using h
 obtain⟨_,_,h3,h4⟩:=LG h;obtain⟨i,hi⟩:=gE.1 hr;have hi':(mn s).zM[i]?=some (AS s r):=by unfold mn;simp only[gf,hi,gF]
 have hz:=Ge h4 i (dW.1 hi').1;obtain⟨_,_,_,hn⟩:=Nj hi' hz;have hn:s.zn.any (λc=>c.name == kf s.zn r.zg)=true:=hn;by_cases hb:0<=r.zg/\r.zg<s.zn.length
 ·exact hb
 ·unfold kf at hn;rw[dZ hb]at hn;obtain⟨c,hc,he⟩:=p9.1 hn;obtain⟨j,hj⟩:=gE.1 hc;have:=VX hj (Ge h3 j (dW.1 hj).1);rw[show c.name=[] from aq he,VR]at this;cases this
def NJ{s:Sna}(h:vU s=true)(n hh p:ft):0<=(AY s n hh p).1/\∃c,s.zn[(AY s n hh p).1.toNat]?=some c:=by
 have g:=(j7 h).zn.1;have zero:∃c,s.zn[(0:Int).toNat]?=some c:=⟨s.zn[0]'aw,dX aw⟩;unfold AY;split
 ·exact⟨gL _,zero⟩
 ·split
  ·exact⟨gL _,zero⟩
  ·split
   ·rename_i r hr;have:=Ws h (dY hr);exact⟨this.1,s.zn[r.zg.toNat]'aw,dX aw⟩
   ·exact⟨gL _,zero⟩
structure PB(x:fV)(e:En):Prop where
 is:Slp.fE e=true
 len:(e.next.length:Int)=x.x4
structure ou(v:fp):Prop where
 snap:vU v.snap=true
 len:v.zo.length=v.snap.zn.length
 Aw:∀(i:Nat) g x,v.zo[i]?=some g->v.snap.zn[i]?=some x->g.ends.length=x.zR.length/\∀e∈g.ends,PB x e
def Lb{x:fV}{e:En}:AW x e=false↔PB x e:=by
 unfold AW;constructor
 ·intro h;simp at h;exact⟨h.1,h.2⟩
 ·rintro⟨h1,h2⟩;simp[h1,h2]
def Of{v:fp}:nY v=true↔ou v:=by
 unfold nY;simp only[gA,gH,gz,p7];constructor
 ·rintro⟨⟨h1,h2⟩,h3⟩;refine⟨h1,h2,λi g x hg hx=>?_⟩;have:=h3 i (dW.1 hg).1;unfold BS at this;rw[hg,hx]at this;simp only[gA,gH,pJ,pC]at this;exact⟨this.1,λe he=>Lb.1 (by simpa using this.2 e he)⟩
 ·rintro⟨h1,h2,h3⟩;refine⟨⟨h1,h2⟩,λi hi=>?_⟩;unfold BS;split
  ·rename_i g x hg hx;obtain⟨h4,h5⟩:=h3 i g x hg hx;simp only[gA,gH,pJ,pC];exact⟨h4,λe he=>by simp[Lb.2 (h5 e he)]⟩
  ·rfl
structure jK(w:Wor):Prop where
 ground:xa w=true
 current:0<=w.current/\w.current<w.zd.length
 zp:Go.Lim.fE w.zp=true
 bad:∀r∈w.zp,yM w r=false
 fM:∀(i:Nat) v,w.zd[i]?=some v->ou v/\v.zW=kc w.zp i
 fC:∀(i:Nat) l,w.ze[i]?=some l->Go.Gat.fE l=true/\zU w.ze l.name=i
def qB{w:Wor}:x6 w=true↔jK w:=by
 unfold x6;simp only[gA,gH,gz,p7,pJ,pC];constructor
 ·rintro⟨⟨⟨⟨⟨h1,h2⟩,h3⟩,h4⟩,h5⟩,h6⟩;refine⟨h1,h2,h3,λr hr=>by simpa using h4 r hr,λi v hv=>?_,λi l hl=>?_⟩
  ·have:=h5 i (dW.1 hv).1;unfold Ah at this;rw[hv]at this;simp only[gA,pF]at this;exact⟨Of.1 this.1,this.2⟩
  ·have:=h6 i (dW.1 hl).1;unfold ng at this;rw[hl]at this;simpa using this
 ·rintro⟨h1,h2,h3,h4,h5,h6⟩;refine⟨⟨⟨⟨⟨h1,h2⟩,h3⟩,λr hr=>by simp[h4 r hr]⟩,λi hi=>?_⟩,λi hi=>?_⟩
  ·unfold Ah;split
   ·rename_i v hv;obtain⟨a,b⟩:=h5 i v hv;simp[Of.2 a,b]
   ·rfl
  ·unfold ng;split
   ·rename_i l hl;obtain⟨a,b⟩:=h6 i l hl;simp[a,b]
   ·rfl
def ou.lD{v:fp}(h:ou v):v.zo.length<=4/\∀g∈v.zo,g.ends.length<=4/\1<=g.ends.length/\∀e∈g.ends,Slp.fE e=true/\e.next.length<=4/\1<=e.next.length:=by
 have gn:=j7 h.snap;refine⟨by have:=gn.zn.2;have:=h.len;omega,λg hg=>?_⟩;obtain⟨i,hi⟩:=gE.1 hg;have fj:=(dW.1 hi).1;obtain⟨x,hx⟩:∃x,v.snap.zn[i]?=some x:=⟨_,dX (by have:=h.len;omega)⟩;obtain⟨h1,h2⟩:=h.Aw i g x hi hx;have gx:=gn.all x (dY hx);refine⟨by have:=gx.zR.2;omega,by have:=gx.zR.1;omega,λe he=>?_⟩;have ge:=h2 e he;have gs:=gx.x4;exact⟨ge.is,by have:=ge.len;omega,by have:=ge.len;omega⟩
structure Ql(w:Wor):Prop where
 pins:1<=w.pins.length/\w.pins.length<=8
 counts:w.counts.length=w.pins.length/\∀r∈w.counts,r.length=6
 zl:0<=w.zl/\w.zl<=1000000000000
 lock:w.lock=0\/w.lock=1
 nM:∀p∈w.pins,0<=p/\p<=w.zl+1
def qi{w:Wor}:xa w=true↔Ql w:=by
 unfold xa B5;simp only[gA,pX,gH,gz,pJ,pC,pF];constructor
 ·rintro⟨⟨⟨⟨⟨⟨⟨h1,h2⟩,h3⟩,⟨h4,h5⟩,h6⟩,h7⟩,h8⟩,h9⟩,h10⟩;exact⟨⟨h1,h2⟩,⟨h3,h4⟩,⟨h7,h8⟩,h9,λp hp=>by have:=h10 p hp;simp[AF]at this;omega⟩
 ·rintro⟨⟨h1,h2⟩,⟨h3,h4⟩,⟨h7,h8⟩,h9,h10⟩;exact⟨⟨⟨⟨⟨⟨⟨h1,h2⟩,h3⟩,⟨h4,aw⟩,aw⟩,h7⟩,h8⟩,h9⟩,λp hp=>by have:=h10 p hp;simp[AF];omega⟩
def Cl{N:Nat}{w:Wor}(h:jK w)(t:mw N w)(hN:N<=100000000):jd w:=by
 have g:=qi.1 h.ground;refine⟨by have:=g.pins;omega,⟨by have:=t.iW;omega,λv hv=>?_⟩,by have:=t.fC;omega,⟨by have:=g.counts.1;have:=g.pins;omega,λr hr=>by have:=g.counts.2 r hr;omega⟩,by have:=t.lim;omega⟩;obtain⟨i,hi⟩:=gE.1 hv;have f:=(h.fM i v hi).1.lD;exact⟨aw,λg hg=>⟨by have:=(f.2 g hg).1;omega,λe he=>by have:=((f.2 g hg).2.2 e he).2;omega⟩⟩
def Cp{N:Nat}{w:Wor}(h:jK w)(t:mw N w)(hN:N<=100000000):ir w:=by
 have g:=qi.1 h.ground;refine⟨by have:=g.pins;omega,⟨by have:=t.iW;omega,λv hv=>?_⟩,⟨by have:=t.fC;omega,t.na⟩,⟨by have:=g.counts.1;have:=g.pins;omega,λr hr=>by have:=g.counts.2 r hr;omega⟩,by have:=t.lim;omega⟩;obtain⟨i,hi⟩:=gE.1 hv;have f:=(h.fM i v hi).1.lD;have o:=t.lq v hv;exact⟨o.1,aw,λg hg=>⟨by have:=(f.2 g hg).1;omega,(o.2 g hg).2⟩⟩
def O9{w:Wor}(h:jK w){i:Nat}{v:fp}(hv:w.zd[i]?=some v):EM v:=by
 have f:=(h.fM i v hv).1.lD;exact⟨aw,λg hg=>by have:=(f.2 g hg).1;omega⟩
def zxV{N:Nat}{w:Wor}{m:fi}(h:jK w)(t:mw N w)(tm:iq m){i:Nat}{v:fp}(hv:w.zd[i]?=some v):G7 m v:=by
 have g:=(h.fM i v hv).1;have o:=(t.lq v (dY hv)).1;refine⟨⟨o.ze.1,o.rules.1,λr hr=>o.rules.2 r hr⟩,tm.host,tm.path,tm.d0,tm.d1,λ_=>?_⟩;obtain⟨h0,c,hc⟩:=NJ g.snap m.op.listen m.op.host m.op.path;exact⟨h0,c,hc,by have:=((j7 g.snap).all c (dY hc)).zR.2;omega⟩
def XL{w:Wor}(h:jK w){t:Int}(h0:0<=t)(h1:t<w.pins.length):∃r,w.counts[t.toNat]?=some r/\r.length=6:=by
 have g:=qi.1 h.ground;have fj:t.toNat<w.counts.length:=by have:=g.counts.1;omega
 exact⟨_,dX fj,g.counts.2 _ (gU fj)⟩
def yy{α:Type}(l:List α)(i:Nat){x:α}(h:l[i]?=some x):l.set i x=l:=by
 obtain⟨h1,rfl⟩:=dW.1 h;exact List.set_getElem_self h1
def UL{w:Wor}{m:fi}{v:fp}{g:Gr}{e:En}(hat:ic w m v g e):mU w m v g e g.zu e.head e.zi=w:=by
 unfold mU xq yT qs;rw[yy g.ends _ hat.fP,yy v.zo _ hat.fG,yy w.zd _ hat.at_]
abbrev Ca(f:FuncId)(w:Wor)(m:fi)(r:Wor×fi×fk):Prop:=tj f [] [Cw w,Cm m] (.fq [Cw r.1,Cm r.2.1,Ce r.2.2]) []
def Ft{w:Wor}{m:fi}{f:fI->Wor×fi×fk}{r:Wor×fi×fk}(h:iU w m f=some r):0<=m.listen/\∃x,w.ze[m.listen.toNat]?=some x/\r=f x:=by
 unfold iU at h;split at h
 ·cases h
 obtain⟨x,hx,rfl⟩:=gM.1 h;exact⟨aw,x,hx,rfl⟩
def LH{w:Wor}{m:fi}{k pc:Int}{r:Wor×fi×fk}(h:vH w m k pc=some r):∃r0 x,w.counts[m.zf.toNat]?=some r0/\r0[k.toNat]?=some x/\
  r=({w with counts:=w.counts.set m.zf.toNat (r0.set k.toNat (IntKind.u64.wrap (x+1)))},{m with pc:=pc},fK m 3 10 k):=by
 unfold vH at h;split at h
 ·cases h
 split at h
 ·cases h
 rename_i r0 h1 _ x h2;exact⟨r0,x,h1,h2,(gp h).symm⟩
def qS.at_{w:Wor}{m:fi}{v:fp}{g:Gr}{e:En}(su:qS w m v g e):ic w m v g e:=⟨⟨⟨su.version.1,su.fN⟩,su.zg.1,su.fG⟩,su.end_.1,su.fP⟩
def Tv(n:Int):0<=Ac n/\Ac n<=5:=by
 unfold Ac;split <;> omega
section
variable {N:Nat} {w:Wor} {m:fi} {v:fp} {g:Gr} {e:En} {r:Wor×fi×fk}
def zxN(su:qS w m v g e)(hs:qd w m=true)(t:mw N w)(tm:iq m)(hN:N<=100000000)(h3:m.pc<3)(h:Bw w m=some r):Ca 126 w m r:=by
 have gw:=qB.1 su.world;have sw:=Cl gw t hN;have ok:=Cp gw t hN;unfold Bw at h;split at h
 ·rename_i hpc;cases h
  exact HV aw h3 (U2 w m sw ok tm.listen hpc hs)
 split at h
 ·rename_i hpc;cases h
  exact HV aw h3 (U3 w m sw ok tm.listen hpc hs)
 split at h
 ·rename_i hpc;cases h
  exact HV aw h3 (U4 w m sw ok tm.listen hpc hs)
 ·cases h
def Sy(su:qS w m v g e)(hs:qd w m=true)(t:mw N w)(tm:iq m)(hN:N<=100000000)(h:qj w m v g e=some r):Ca 126 w m r:=by
 have gw:=qB.1 su.world;have sw:=Cl gw t hN;have ok:=Cp gw t hN;have hl:=tm.listen;have at_:=su.at_;have gv:=(gw.fM _ v su.fN).1;have oe:=(t.lq v (dY su.fN)).2 g (dY su.fG);have okE:=oe.2 e (dY su.fP)
 have hne:e.next≠[]:=by
  intro h0;have:=su.slot;rw[h0]at this;exact cW
 unfold qj at h;by_cases h3:m.pc<3
 ·rw[gh h3]at h;exact zxN su hs t tm hN h3 h
 rw[dZ h3]at h;by_cases p:m.pc=3
 ·rw[gh p]at h;cases h
  exact Xt sw ok hl p hs (QN w m (by have:=t.fC;omega))
 rw[dZ p]at h
 clear p
 by_cases p:m.pc=4
 ·rw[gh p]at h;obtain⟨l0,x,hx,rfl⟩:=Ft h;exact Xu sw ok hl p hs l0 aj (SR w m x l0 hx)
 rw[dZ p]at h
 clear p
 by_cases p:m.pc=5
 ·rw[gh p]at h;obtain⟨l0,x,hx,rfl⟩:=Ft h;exact Xv sw ok hl p hs l0 (Q3 w m v at_.tooT (zxV gw t tm su.fN) l0 hx)
 rw[dZ p]at h
 clear p
 by_cases p:m.pc=6
 ·rw[gh p]at h;obtain⟨c,hc,rfl⟩:=gM.1 h;exact Xw sw ok hl p hs at_ hne (Sf w m v g e c at_.ln hc oe.1 (by have:=((j7 gv.snap).all c (dY hc)).zR.2;omega))
 rw[dZ p]at h
 clear p
 by_cases p:m.pc=7
 ·rw[gh p]at h;cases h
  exact Xx sw ok hl p hs (QL w m v g e at_)
 rw[dZ p]at h
 clear p
 by_cases p:m.pc=8
 ·rw[gh p]at h;obtain⟨e2,he2,rfl⟩:=gM.1 h;exact Xy sw ok hl p hs (QK w m v g e2 at_.toDA su.other.1 he2)
 rw[dZ p]at h
 clear p
 by_cases p:m.pc=9
 ·rw[gh p]at h;by_cases q:0<=zB e.head/\zB e.head<e.next.length
  ·rw[gh q]at h;cases h
   exact NL sw ok hl p hs (Rt w m v g e at_ okE.1 q)
  ·rw[dZ q]at h;cases h
   exact NL sw ok hl p hs (QX w m v g e at_ okE.1 q)
 rw[dZ p]at h
 clear p
 by_cases p:m.pc=10
 ·rw[gh p]at h;obtain⟨x,hx,rfl⟩:=gM.1 h;exact Wg sw ok hl p hs (Ru w m v g e at_ su.slot.1 hx)
 rw[dZ p]at h
 clear p
 by_cases p:m.pc=11
 ·rw[gh p]at h;by_cases q:e.head=m.word
  ·rw[gh q]at h;cases h
   exact M5 sw ok hl p hs at_ hne (QQ w m v g e at_.ln tm.word tm.link.1 tm.link.2 q)
  ·rw[dZ q]at h;cases h
   have:=M5 sw ok hl p hs at_ hne (Q6 w m v g e at_.ln tm.word tm.link.1 tm.link.2 okE.1 q)
   rwa [UL at_]at this
 rw[dZ p]at h
 clear p
 by_cases p:m.pc=12
 ·rw[gh p]at h;cases h
  exact Wh sw ok hl p hs at_ hne (R4 w m v g e at_.ln)
 rw[dZ p]at h
 clear p
 by_cases p:m.pc=20
 ·rw[gh p]at h;obtain⟨r0,x,hr,hx,rfl⟩:=LH h;exact Wi sw ok hl p hs su.zf.1 hr (by rintro rfl;simp at hx) aj (Q7 w m r0 x _ rfl su.zf.1 hr hx)
 rw[dZ p]at h
 clear p
 by_cases p:m.pc=21
 ·rw[gh p]at h;obtain⟨r0,x,hr,hx,rfl⟩:=LH h;exact Vv sw ok hl p hs su.zf.1 hr (by rintro rfl;simp at hx) aj (Rc w m r0 x su.zf.1 hr hx)
 rw[dZ p]at h
 clear p
 by_cases p:m.pc=22
 ·rw[gh p]at h;obtain⟨l0,x,hx,rfl⟩:=Ft h;exact Vw sw ok hl p hs l0 aj (SC w m x l0 hx)
 rw[dZ p]at h
 clear p
 by_cases p:m.pc=23
 ·rw[gh p]at h;cases h
  exact Vx sw ok hl p hs (S8 w m sw ok hl hs)
 rw[dZ p]at h;cases h
def SS(su:qS w m v g e)(hs:qd w m=true)(t:mw N w)(tm:iq m)(hN:N<=100000000)(h:j9 w m v g e=some r):Ca 127 w m r:=by
 have gw:=qB.1 su.world;have sw:=Cl gw t hN;have ok:=Cp gw t hN;have hl:=tm.listen;have at_:=su.at_;have gv:=(gw.fM _ v su.fN).1;have oe:=(t.lq v (dY su.fN)).2 g (dY su.fG);have okE:=oe.2 e (dY su.fP);have ln:=((gv.lD.2 g (dY su.fG)).2.2 e (dY su.fP)).2
 have hne:e.next≠[]:=by
  intro h0;rw[h0]at ln;simp at ln
 have sl:=su.slot;unfold j9 at h;by_cases p:m.pc=0
 ·rw[gh p]at h;cases h
  exact Uf w m v g e sw ok hl p hs at_ tm.word okE.1
 rw[dZ p]at h
 clear p
 by_cases p:m.pc=1
 ·rw[gh p]at h;cases h
  exact Ug w m v g e sw ok hl p hs at_ hne tm.word okE.1 sl.1 aw J J J
 rw[dZ p]at h
 clear p
 by_cases p:m.pc=2
 ·rw[gh p]at h;by_cases q:e.head=m.word
  ·rw[gh q]at h;cases h
   exact Uh w m v g e sw ok hl p hs at_ hne tm.word okE.1 q aw aw J J J
  ·rw[dZ q]at h;cases h
   exact R3 w m v g e sw ok hl p hs at_ tm.word okE.1 q
 rw[dZ p]at h
 clear p
 by_cases p:m.pc=3
 ·rw[gh p]at h;cases h
  exact Ui w m v g e sw ok hl p hs at_ hne tm.word okE.1 J J J
 rw[dZ p]at h
 clear p
 by_cases p:m.pc=4
 ·rw[gh p]at h;obtain⟨l0,x,hx,rfl⟩:=Ft h;exact Uj w m v g e x sw ok hl p hs at_ tm.word okE.1 l0 hx
 rw[dZ p]at h
 clear p
 by_cases p:m.pc=9
 ·rw[gh p]at h;cases h
  exact Uk w m v g e sw ok hl p hs at_ tm.word okE.1
 rw[dZ p]at h;cases h
end
section
variable {N:Nat} {w:Wor} {m:fi} {v:fp} {g:Gr} {e:En} {r:Wor×fi×fk}
def VE{l:List ft}{s:ft}(h:l.any (λx=>x == s)=true):wx l (vj l s)=s:=by
 unfold vj;cases hf:l.findIdx? (λx=>x == s) with
 |none=>
  rw[gS]at hf;obtain⟨x,hx,he⟩:=p9.1 h;rw[hf x hx]at he;cases he
 |some i=>
  obtain⟨h1,h2,_⟩:=gK.1 hf;show wx l ((i:Nat):Int)=s;unfold wx;rw[gh ⟨aw,aq h1⟩];simp only[rD,dX h1,Option.getD_some];simpa using h2
def VD{l:List fV}{s:ft}(h:A3 l s=true):kf l (AP l s)=s:=by
 unfold A3 at h;unfold AP;cases hf:l.findIdx? (λx=>x.name == s) with
 |none=>
  rw[gS]at hf;obtain⟨x,hx,he⟩:=p9.1 h;rw[hf x hx]at he;cases he
 |some i=>
  obtain⟨h1,h2,_⟩:=gK.1 hf;show kf l ((i:Nat):Int)=s;unfold kf;rw[gh ⟨aw,aq h1⟩];simp only[rD,dX h1,gF,Option.getD_some];simpa using h2
def Vf{c:ia}(h:(jn c).1=0):mn (jJ c).1=c:=by
 obtain⟨_,_,_,h4⟩:=LG h;unfold jJ;rw[dZ aw];obtain⟨ls,rs,cs⟩:=c;unfold mn;simp only[rA,ia.mk.injEq,uy,and_true];refine pq λi=>?_
 rw[gf];cases hi:rs[i]? with
 |none=>rfl
 |some r=>
  obtain⟨a,_,_,b⟩:=Nj (c:=⟨ls,rs,cs⟩) hi (Ge h4 i (dW.1 hi).1);simp only[gF,Function.comp,gQ];unfold AS Bm;dsimp only;rw[VE a,VD b]
def HQ{c:ia}(h:(jn c).1=0):vU (jJ c).1=true:=by
 unfold vU;rw[Vf h,h]
 rfl
def Iq(c:ia):(jJ c).2.1=(jn c).1:=by
 unfold jJ;split
 ·rfl
 ·rename_i h;simpa using (Decidable.of_not_not h).symm
def HF(c:ia):Ag c=(jn c).1:=by
 unfold Ag;rw[Iq];split
 ·rfl
 ·rename_i h;have h:(jn c).1=0:=Decidable.of_not_not h;unfold qV;rw[gh (HQ h),h]
def Wx(su:qS w m v g e)(hs:qd w m=true)(t:mw N w)(tm:iq m)(hN:N<=100000000)(hk:m.op.kind=3)(h:wy w m=some r):Ca 128 w m r:=by
 have gw:=qB.1 su.world;have sw:=Cl gw t hN;have ok:=Cp gw t hN;have hl:=tm.listen;unfold wy at h;by_cases p:m.pc=0
 ·rw[gh p]at h;by_cases q:Ag m.op.config=0
  ·rw[gh q]at h;cases h
   exact S1 w m sw ok hl p hs (Ht (tm.cfg hk) (by rw[<-HF];exact q)) q
  ·rw[dZ q]at h;cases h
   exact RD w m _ sw ok hl p hs (tm.cfg hk) (by rw[Iq,HF]) q
 rw[dZ p]at h
 clear p
 by_cases p:m.pc=1
 ·rw[gh p]at h;cases h
  exact S2 w m sw ok hl p hs
 rw[dZ p]at h
 clear p
 by_cases p:m.pc=2
 ·rw[gh p]at h;cases q:oA w m
  ·rw[q]at h;cases h
   cases hx:w.zp with
   |nil=>have:=Sb w m sw ok hl p hs q hx;rwa [hx]at this
   |cons x l=>have:=S3 w m x l sw ok hl p hs q hx;rwa [hx]at this
  ·rw[q]at h;cases h
 rw[dZ p]at h;cases h
def T8(su:qS w m v g e)(hs:qd w m=true)(t:mw N w)(tm:iq m)(hN:N<=100000000)(h:yX w m=some r):Ca 129 w m r:=by
 have gw:=qB.1 su.world;have sw:=Cl gw t hN;have ok:=Cp gw t hN;have hl:=tm.listen;unfold yX at h;by_cases p:m.pc=0
 ·rw[gh p]at h;by_cases q:zU w.ze m.op.listen<0
  ·rw[gh q]at h;cases h
   exact Ri w m sw ok hl p hs q
  ·rw[dZ q]at h;obtain⟨x,hx,rfl⟩:=gM.1 h;exact Re w m x sw ok hl p hs aw hx
 rw[dZ p]at h;cases h
def UE(su:qS w m v g e)(hs:qd w m=true)(t:mw N w)(tm:iq m)(hN:N<=100000000)(hk:m.op.kind=6)(h:yF w m=some r):Ca 131 w m r:=by
 have gw:=qB.1 su.world;have sw:=Cl gw t hN;have ok:=Cp gw t hN;unfold yF at h;split at h
 rotate_left
 ·cases h
 rename_i p;obtain⟨rw_,h1,h2⟩:=gO.1 h;obtain⟨n,h3,rfl⟩:=gM.1 h2;exact Tj w m rw_ n sw ok tm.listen p.1 hs su.done ⟨su.i,h1,su.k,p.2,h3⟩ (tm.mM hk su.done)
def vP(gw:jK w){i:Nat}{x:fH}(hx:w.zp[i]?=some x):0<=x.at_/\x.at_<=w.zl/\0<=x.version/\x.version<w.zd.length/\x.version≠w.current:=by
 have h1:=gw.bad x (dY hx);have h2:=gJ (show decide (∀i,(h:i<w.zp.length)->Go.Lim.ij w.zp i w.zp[i]=true)=true from gw.zp) i (dW.1 hx).1;rw[(dW.1 hx).2]at h2;unfold yM at h1;unfold Go.Lim.ij at h2;simp at h1 h2;omega
def Ov(h0:0<=m.i):tj 169 [oW w,oM m] [.agg tf] (Ce (iX w m).2.2) [⟨1,38,8,[vC (iX w m).1],0⟩,⟨1,95,44,[mC (iX w m).2.1],0⟩]:=by
 unfold iX;cases hx:w.ze[m.i.toNat]? with
 |none=>exact QH w m (by have:=pV.1 hx;omega)
 |some l=>exact QW w m l h0 hx
def RV(su:qS w m v g e)(hs:qd w m=true)(t:mw N w)(tm:iq m)(hN:N<=100000000)(h:jY w m=some r):Ca 130 w m r:=by
 have gw:=qB.1 su.world;have sw:=Cl gw t hN;have ok:=Cp gw t hN;have hl:=tm.listen;have av:=su.at_.tooT;unfold jY at h;by_cases p:m.pc=0
 ·rw[gh p]at h;by_cases q:w.lock=0
  ·rw[gh q]at h;cases h
   (exact jR sw ok hl hs (xI w m aw) 0 _ J (λ_ _ _ _ _ _ _ _ _ _=>by rw[p];rfl) J (Rz w m q))
  ·rw[dZ q]at h;cases h
   (exact jR sw ok hl hs (xI w m aw) 0 _ J (λ_ _ _ _ _ _ _ _ _ _=>by rw[p];rfl) J (Sk w m q))
 rw[dZ p]at h
 clear p
 by_cases p:m.pc=1
 ·rw[gh p]at h;cases h
  (exact jR sw ok hl hs (xI w m aw) 1 _ J (λ_ _ _ _ _ _ _ _ _ _=>by rw[p];rfl) J (Go.Wor.Q4 w m))
 rw[dZ p]at h
 clear p
 by_cases p:m.pc=2
 ·rw[gh p]at h;obtain⟨x,hx,rfl⟩:=gM.1 h;have fj:=(dW.1 hx).1;have si:=su.i;exact jR sw ok hl hs (UO w m p aw) 2 _ J (λ_ _ _ _ _ _ _ _ _ _=>by rw[p];rfl) J (Ry w m x su.i hx)
 rw[dZ p]at h
 clear p
 by_cases p:m.pc=3
 ·rw[gh p]at h;by_cases q:w.zl=m.zl/\w.zl<1000000000000
  ·rw[gh q]at h;cases h
   (exact jR sw ok hl hs (xI w m aw) 3 _ J (λ_ _ _ _ _ _ _ _ _ _=>by rw[p];rfl) J (QO w m q.1 q.2))
  ·rw[dZ q]at h;cases h
   (exact jR sw ok hl hs (xI w m aw) 3 _ J (λ_ _ _ _ _ _ _ _ _ _=>by rw[p];rfl) J (QZ w m q))
 rw[dZ p]at h
 clear p
 by_cases p:m.pc=4
 ·rw[gh p]at h;cases hx:w.zp[m.i.toNat]? with
  |none=>
   rw[hx]at h;cases h
   (exact jR sw ok hl hs (xI w m aw) 4 _ J (λ_ _ _ _ _ _ _ _ _ _=>by rw[p];rfl) J (QI (by have:=pV.1 hx;have:=su.i;omega) (Ov (m:=iI m 8 0) (gL _))))
  |some x=>
   rw[hx]at h;cases h
   have la:=vP gw hx;have ge:=(qi.1 gw.ground).zl
   (exact jR sw ok hl hs (xI w m aw) 4 _ J (λ_ _ _ _ _ _ _ _ _ _=>by rw[p];rfl) J (Q5 w m x ⟨aw,aw⟩ su.i hx))
 rw[dZ p]at h
 clear p
 by_cases p:m.pc=5
 ·rw[gh p]at h;obtain⟨v',hv',h⟩:=gO.1 h;obtain⟨x,hx,rfl⟩:=gM.1 h;have fj:=(dW.1 hx).1;have sk:=su.k;exact jR sw ok hl hs (UP w m v' (O9 gw hv') p ⟨su.version.1,hv'⟩ aw) 5 _ J (λ_ _ _ _ _ _ _ _ _ _=>by rw[p];rfl) J (QV w m v' x (O9 gw hv') ⟨su.version.1,hv'⟩ su.k hx)
 rw[dZ p]at h
 clear p
 by_cases p:m.pc=6
 ·rw[gh p]at h;obtain⟨v',hv',h⟩:=gO.1 h;obtain⟨x,hx,h⟩:=gO.1 h;split at h
  rotate_left
  ·cases h
  rename_i q;cases h
  exact RY sw ok hl hs (UQ w m x p su.i hx q.1 q.2) 6 _ J (λ_ _ _ _ _ _ _ _ _ _=>by rw[p];rfl) J (by rintro h0;rw[h0]at hv';simp at hv') (by rintro h0;rw[h0]at hx;simp at hx) aj aj (w6 w m v' x ⟨su.version.1,hv'⟩ su.i hx)
 rw[dZ p]at h
 clear p
 by_cases p:m.pc=8
 ·rw[gh p]at h;cases h
  (exact jR sw ok hl hs (xI w m aw) 7 _ J (λ_ _ _ _ _ _ _ _ _ _=>by rw[p];rfl) J (Ov su.i))
 rw[dZ p]at h
 clear p
 by_cases p:m.pc=9
 ·rw[gh p]at h;obtain⟨x,hx,rfl⟩:=gM.1 h;have fj:=(dW.1 hx).1;have si:=su.i;exact jR sw ok hl hs (UR w m p aw) 8 _ J (λ_ _ _ _ _ _ _ _ _ _=>by rw[p];rfl) J (QY w m x su.i hx)
 rw[dZ p]at h
 clear p
 by_cases p:m.pc=10
 ·rw[gh p]at h;obtain⟨x,hx,h⟩:=gO.1 h;split at h
  rotate_left
  ·cases h
  rename_i q;cases h
  exact RZ sw ok hl hs (SG w m x p su.i hx q) 9 _ J (λ_ _ _ _ _ _ _ _ _ _=>by rw[p];rfl) J (by rintro h0;rw[h0]at hx;simp at hx) aj (UB w m x su.i hx)
 rw[dZ p]at h;cases h
end
end Go.Wor
namespace Go.Wor
open Go.Ab Go.Proofs Tryz Go.Gat Go.Nam Go.Hos Go.Con Go.Sna Go.Pla
open Go.Hy hiding encI
abbrev Zc(w:Wor)(m:fi)(r:Wor×fi×fk):Prop:=tj 63 [] [Sw w,Sm m] (Sr r.1 r.2.1 r.2.2) []
def U5{N:Nat}{w:Wor}{m:fi}{r:Wor×fi×fk}(hs:qd w m=true)(t:mw N w)(tm:iq m)(hN:N<=100000000)(h:vV w m=some r):Zc w m r:=by
 obtain⟨v,g,e,su⟩:=x5 hs;unfold vV at h;rw[su.fN]at h;dsimp only at h;rw[su.fG]at h;dsimp only at h;rw[su.fP]at h;dsimp only at h;by_cases k:m.op.kind=1
 ·rw[gh k]at h;exact Tk k (Sy su hs t tm hN h)
 rw[dZ k]at h
 clear k
 by_cases k:m.op.kind=2
 ·rw[gh k]at h;exact Tl k (SS su hs t tm hN h)
 rw[dZ k]at h
 clear k
 by_cases k:m.op.kind=3
 ·rw[gh k]at h;exact Tm k (Wx su hs t tm hN k h)
 rw[dZ k]at h
 clear k
 by_cases k:m.op.kind=4
 ·rw[gh k]at h;exact Tn k (T8 su hs t tm hN h)
 rw[dZ k]at h
 clear k
 by_cases k:m.op.kind=5
 ·rw[gh k]at h;exact To k (RV su hs t tm hN h)
 rw[dZ k]at h
 clear k
 by_cases k:m.op.kind=6
 ·rw[gh k]at h;exact Tp k (UE su hs t tm hN k h)
 rw[dZ k]at h;cases h
end Go.Wor
