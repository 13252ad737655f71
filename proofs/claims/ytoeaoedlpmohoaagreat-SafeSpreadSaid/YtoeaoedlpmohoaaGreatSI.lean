import Derived.Test.YtoeaoedlpmohoaaGreatSY
import Derived.Test.YtoeaoedlpmohoaaGreatSG
import Derived.Test.YtoeaoedlpmohoaaGreatSH
import Derived.Test.YtoeaoedlpmohoaaGreatSZ
set_option linter.all false
set_option maxRecDepth 100000
set_option maxHeartbeats 4000000
namespace Go.Wor
open Go.Ab Go.Proofs Tryz Go.Hy Go.Gat Go.Nam Go.Hos Go.Con Go.Sna
def znc(w:Wor)(m:lh)(v:lJ)(g:Gr)(e:En)(sw:jF w)(ok:nk w)(hl:i64 m.listen)(hpc:m.pc=2)(hs:ql w m=true)(hat:m7 w m v g e)(hw:u64 m.word)(hh:u64 e.head)(hne:e.head≠m.word):
  tp 127 [] [Cw w,Cm m] (.lK [Cw w,Cm {m with pc:=0},Ce (nr m v 5 8 (e.head%4294967296-1))]) []:=by
 have a0:=hat.v0;have a1:=hat.toCT.row;have b0:=hat.g0;have b1:(v.zp.map zI)[m.zi.toNat]?=some (zI g):=by rw[pj,hat.mn];rfl
 have c0:=hat.e0;have c1:(g.ends.map zF)[m.end_.toNat]?=some (zF e):=by rw[pj,hat.mM];rfl
 refine ab func127 ?_;(repeat (first|refine uA ?_|refine uB ?_))
 refine ah (zV w m ok hl) ?_;refine⟨λ_=>dd ?_,λh=>absurd ((hs).symm.trans h:true=false) ar⟩;(repeat (first|refine uA ?_|refine uB ?_))
 refine tf ?_
 refine ah (qP w sw) ?_;refine uE ?_;(refine⟨a0,_,a1,dd ?_⟩)
 (refine⟨b0,_,b1,dd ?_⟩)
 (refine⟨c0,_,c1,dd ?_⟩)
 refine ah (Slp.je m.word hw) ?_;refine .inr ⟨⟨[0,1,5,6,7],[0,1],true⟩,au,λ_=>O,_,uH ?_,λt2 H2 h=>h⟩;refine⟨_,ai [] (Slp.je e.head hh),uH ?_⟩;refine⟨_,ai [] (kG w m v hat.toCT 1 8 (e.head%4294967296-1)),uH ?_⟩;(refine⟨uH ?_,trivial⟩);refine td ?_
 (refine⟨uH ?_,trivial⟩);refine td ?_
 (refine⟨_,_,.refl _,uH ?_⟩)
 (repeat (first|refine uA ?_|refine uB ?_))
 refine uE ?_;refine⟨λ_=>dd ?_,λh=>absurd h (aq hne)⟩;refine Bz.go O (uH ?_);refine .inl ⟨⟨false,[0,1,2],[5,1,6],[]⟩,au,uH ?_⟩;refine td ?_
 exact uI
def zhA(w:Wor)(m:lh)(v:lJ)(g:Gr)(e:En)(hv:m7 w m v g e)(he:u64 e.head)(hi:¬(0<=e.head%4294967296-1/\e.head%4294967296-1<e.next.length)):
  tp 190 [oW w,oM m] [.agg to] (Ce (nr m v 1 8 (e.head%4294967296-1))) [oW w,oM (BB {m with word:=e.head} 4)]:=by
 have ml:(e.next.map Go.Hy.encI).length=e.next.length:=pB ..;refine aa func190 ?_;refine KP [0,1] (F3 w m v g e hv) O O O O O O (dd ?_);refine ah (Slp.je e.head he) ?_;refine⟨λq1=>?_,λq1=>?_⟩
 ·refine dd ?_;refine tf ?_
  refine af [1] (wO {m with word:=e.head} 4) ?_;refine af [0,1] (Gc w (BB {m with word:=e.head} 4) v ⟨hv.v0,hv.at_⟩ 1 8 (e.head%4294967296-1)) ?_;exact di
 ·refine dd ?_;refine KP [0,1] (F3 w {m with word:=e.head} v g e ⟨⟨⟨hv.v0,hv.at_⟩,hv.g0,hv.mn⟩,hv.e0,hv.mM⟩) O O O O O O (dd ?_);rw[ml];refine⟨λq2=>?_,λq2=>?_⟩
  ·refine dd ?_;refine tf ?_
   refine af [1] (wO {m with word:=e.head} 4) ?_;refine af [0,1] (Gc w (BB {m with word:=e.head} 4) v ⟨hv.v0,hv.at_⟩ 1 8 (e.head%4294967296-1)) ?_;exact di
  ·exact absurd ⟨bX,by simp at q2;omega⟩ hi
abbrev CU:=Option (Wor×lh×lD)
def AN(w:Wor)(m:lh):CU:=
 if m.pc=0 then some (w,{m with zn:=w.zn,pc:=1},DM m (DU w.zn))
 else if m.pc=1 then some (BK w m.zg.toNat (IntKind.i64.wrap (m.zn+1)),{m with pc:=2},DM m ⟨0,0,2,2,0,false,IntKind.i64.wrap (m.zn+1),false,false,false,BC⟩)
 else if m.pc=2 then some (w,{m with zn:=w.zn,pc:=if w.zn=m.zn then 3 else 1},DM m (DU w.zn))
 else none
abbrev QY(x:mj):mj:={x with zj:=IntKind.i64.wrap (x.zj+1)}
abbrev zG(x:Int):Int:=x%4294967296-1
abbrev DW(m:lh):lM:=⟨1,m.version,m.zi,m.end_,m.slot,m.listen,0,⟨0,0,0,0,0,0⟩⟩
def xQ(w:Wor)(m:lh)(k pc:Int):CU:=match w.counts[m.zg.toNat]? with
 |none=>none
 |some r0=>match r0[k.toNat]? with
  |none=>none
  |some x=>some ({w with counts:=w.counts.set m.zg.toNat (r0.set k.toNat (IntKind.u64.wrap (x+1)))},{m with pc:=pc},mD m 3 10 k)
def vW(w:Wor)(m:lh)(f:mj->Wor×lh×lD):CU:=if m.listen<0 then none else (w.zf[m.listen.toNat]?).map f
def zY(w:Wor)(m:lh)(v:lJ)(g:Gr)(e:En):CU:=
 if m.pc<3 then AN w m
 else if m.pc=3 then some (w,if zD w.zf m.op.listen<0 then BB (FY w m) 2 else FY w m,Qr (mD m 1 3 w.current))
 else if m.pc=4 then vW w m λx=>({w with zf:=w.zf.set m.listen.toNat (QY x)},{m with pc:=5},mD m 3 5 (IntKind.i64.wrap (x.zj+1)))
 else if m.pc=5 then vW w m λl=>(w,if l.drain then BB m 5 else xe m v,if l.drain then {mD m 1 4 1 with zQ:=true} else mD m 1 4 0)
 else if m.pc=6 then (v.snap.zm[m.zi.toNat]?).map λc=>(Aw w m v g e (IntKind.u64.wrap (g.zx+1)) e.head e.zj,K4 m c g.zx,nr m v 3 6 (IntKind.i64.wrap g.zx))
 else if m.pc=7 then some (w,{m with i:=e.zj,pc:=8},nr m v 1 7 e.zj)
 else if m.pc=8 then (g.ends[m.other.toNat]?).map λe2=>(w,{m with end_:=if e2.zj<m.i then m.other else m.end_,pc:=9},nr m v 1 7 e2.zj)
 else if m.pc=9 then some (w,if 0<=zG e.head/\zG e.head<e.next.length then {m with word:=e.head,slot:=zG e.head,pc:=10} else BB {m with word:=e.head} 4,nr m v 1 8 (zG e.head))
 else if m.pc=10 then (e.next[m.slot.toNat]?).map λx=>(w,{m with link:=x,pc:=11},nr m v 1 9 x)
 else if m.pc=11 then (if e.head=m.word then some (Aw w m v g e g.zx (Slp.jC m.word m.link) e.zj,{m with pc:=12},nr m v 4 8 m.slot) else some (w,{m with pc:=9},nr m v 5 8 (zG e.head)))
 else if m.pc=12 then some (Aw w m v g e g.zx e.head (IntKind.i64.wrap (e.zj+1)),{m with answer:=DW m,pc:=20},nr m v 3 7 (IntKind.i64.wrap (e.zj+1)))
 else if m.pc=20 then xQ w m (C8 m.answer.kind) 21
 else if m.pc=21 then xQ w m 0 (if m.answer.kind=1\/m.listen<0 then 23 else 22)
 else if m.pc=22 then vW w m λx=>({w with zf:=w.zf.set m.listen.toNat (EZ x)},{m with pc:=23},mD m 3 5 (IntKind.i64.wrap (x.zj-1)))
 else if m.pc=23 then some (BK w m.zg.toNat 0,{m with done:=true},{Jm m with done:=true,answer:=m.answer})
 else none
def jO(w:Wor)(m:lh)(v:lJ)(g:Gr)(e:En):CU:=
 if m.pc=0 then some (w,{m with word:=e.head,pc:=1},nr m v 1 8 (zG e.head))
 else if m.pc=1 then some (Aw w m v g (wj m e) g.zx e.head e.zj,{m with pc:=2},nr m v 2 9 (zG m.word))
 else if m.pc=2 then (if e.head=m.word then some (Aw w m v g e g.zx (Slp.jC m.word m.slot) e.zj,{m with pc:=3},{nr m v 4 8 m.slot with zQ:=true}) else some (w,{m with pc:=0},nr m v 5 8 (zG e.head)))
 else if m.pc=3 then some (Aw w m v g e g.zx e.head (IntKind.i64.wrap (e.zj-1)),{m with pc:=4},nr m v 3 7 (IntKind.i64.wrap (e.zj-1)))
 else if m.pc=4 then vW w m λx=>({w with zf:=w.zf.set m.listen.toNat (EZ x)},{m with answer:=P2 m,done:=true},QN m x)
 else if m.pc=9 then some (w,{m with answer:=Ah 7,done:=true},QZ m)
 else none
def kU(w:Wor)(m:lh):CU:=
 if m.pc=0 then (if De m.op.config=0 then some ({w with current:=w.zd.length,zd:=w.zd++[wJ m.op.config]},HG m w.current w.zd.length,{mD m 6 3 w.zd.length with zQ:=true})
  else some (w,{m with done:=true,answer:=CZ (De m.op.config)},{mD m 1 3 w.current with zQ:=true,done:=true,answer:=CZ (De m.op.config)}))
 else if m.pc=1 then some (w,{m with zn:=w.zn,pc:=2},mD m 1 1 w.zn)
 else if m.pc=2 then (if Cy w m then none else some ({w with zr:=w.zr++[⟨m.version,m.zn,false⟩]},{m with done:=true,answer:=Fb m},{mD m 2 11 m.version with done:=true,answer:=Fb m}))
 else none
abbrev Rc(p:Int):lM:=⟨10,0,0,0,0,p,0,⟨0,0,0,0,0,0⟩⟩
def yA(w:Wor)(m:lh):CU:=
 if m.pc=0 then (if zD w.zf m.op.listen<0 then some (w,{m with done:=true,answer:=Ah 7},{Ma m with done:=true,answer:=Ah 7})
  else (w.zf[(zD w.zf m.op.listen).toNat]?).map λx=>({w with zf:=w.zf.set (zD w.zf m.op.listen).toNat (Go.Gat.vL x)},{m with listen:=zD w.zf m.op.listen,done:=true,answer:=Rc (zD w.zf m.op.listen)},{MD m with done:=true,answer:=Rc (zD w.zf m.op.listen)}))
 else none
def nM(w:Wor)(m:lh):Wor×lh×lD:=match w.zf[m.i.toNat]? with
 |none=>({w with lock:=0},{m with done:=true,answer:=Jc 11 m.answer.n},{mD m 2 14 0 with done:=true,answer:=Jc 11 m.answer.n})
 |some l=>(w,Es m l,JC m l)
def jA(w:Wor)(m:lh):CU:=
 if m.pc=0 then some (if w.lock=0 then ({w with lock:=1},{m with pc:=1},mD m 4 14 1) else (w,{m with done:=true,answer:=Ah 12},{mD m 5 14 1 with done:=true,answer:=Ah 12}))
 else if m.pc=1 then some (w,{m with zn:=w.zn,pc:=2,i:=0},mD m 1 1 w.zn)
 else if m.pc=2 then (w.pins[m.i.toNat]?).map λp=>(w,CW w m p,mD m 1 2 p)
 else if m.pc=3 then some (if w.zn=m.zn/\w.zn<1000000000000 then ({w with zn:=IntKind.i64.wrap (w.zn+1)},{nH m 4 0 with zn:=IntKind.i64.wrap (w.zn+1)},mD m 4 1 (IntKind.i64.wrap (w.zn+1))) else (w,nH m 4 0,mD m 5 1 w.zn))
 else if m.pc=4 then some (match w.zr[m.i.toNat]? with|none=>nM w (nH m 8 0)|some r=>(w,Dq m r,mD m 1 11 r.version))
 else if m.pc=5 then (w.zd[m.version.toNat]?).bind λv=>((xJ v)[m.k.toNat]?).map λe=>(w,Cd m v e.zj,Jt m v e.zj)
 else if m.pc=6 then (w.zd[m.version.toNat]?).bind λv=>(w.zr[m.i.toNat]?).bind λr=>if r.version=m.version/\r.gone=false then
  some ({w with zd:=w.zd.set m.version.toNat (Cg v),zr:=w.zr.set m.i.toNat (wb r)},HB m,mD m 2 12 m.version) else none
 else if m.pc=8 then some (nM w m)
 else if m.pc=9 then (w.zf[m.i.toNat]?).map λl=>(w,if l.zj=0 then {m with pc:=10} else nH m 8 (IntKind.i64.wrap (m.i+1)),mD m 1 5 l.zj)
 else if m.pc=10 then (w.zf[m.i.toNat]?).bind λl=>if l.drain then some ({w with zf:=w.zf.set m.i.toNat (I9 l)},nH m 8 (IntKind.i64.wrap (m.i+1)),mD m 2 13 1) else none
 else none
def xS(w:Wor)(m:lh):CU:=
 if m.pc=0/\m.k<6 then (w.counts[m.i.toNat]?).bind λr=>(r[m.k.toNat]?).map λn=>(w,jT w m n,G5 w m n) else none
def yu(w:Wor)(m:lh):CU:=match w.zd[m.version.toNat]? with
 |none=>none
 |some v=>match v.zp[m.zi.toNat]? with
  |none=>none
  |some g=>match g.ends[m.end_.toNat]? with
   |none=>none
   |some e=>if m.op.kind=1 then zY w m v g e else if m.op.kind=2 then jO w m v g e else if m.op.kind=3 then kU w m else if m.op.kind=4 then yA w m
    else if m.op.kind=5 then jA w m else if m.op.kind=6 then xS w m else none
structure AE(N:Nat)(w:Wor):Prop where
 wC:w.zd.length<=N
 lY:w.zf.length<=N
 lim:w.zr.length<=N
 oO:∀v∈w.zd,Dx v.snap/\∀g∈v.zp,u64 g.zx/\∀e∈g.ends,e.ok
 Bw:∀l∈w.zf,l.ok
structure nh(m:lh):Prop where
 listen:i64 m.listen
 word:u64 m.word
 link: -1<=m.link/\m.link<=2147483646
 host:m.op.host.length<1000000000000000
 path:m.op.path.length<1000000000000000
 d0:i64 m.op.d0
 d1:i64 m.op.d1
 cfg:m.op.kind=3->yY m.op.config
 AY:m.op.kind=6->m.done=false->m.answer=BC
def R7{c:mL}(h:(qy c).1=0):(kT c).1=0/\(xD (El c.zf) c.zf.length).1=0/\(xD (B6 c.zm) c.zm.length).1=0/\(xD (B2 c) c.zS.length).1=0:=by
 unfold qy at h;split at h
 ·contradiction
 rename_i h1;split at h
 ·contradiction
 rename_i h2;split at h
 ·contradiction
 rename_i h3;split at h
 ·contradiction
 rename_i h4;exact⟨aq h1,Decidable.of_not_not h2,Decidable.of_not_not h3,Decidable.of_not_not h4⟩
def Um{c:mL}{i:Nat}{r:BQ}(hr:c.zS[i]?=some r)(h:B2 c i=0):c.zf.any (λx=>x == r.listen)=true/\CQ r.host=true/\Cz r.path=true/\wU c.zm r.zi=true:=by
 unfold B2 at h;rw[hr]at h;dsimp only at h;split at h
 ·cases h
 rename_i h1;split at h
 ·cases h
 rename_i h2;split at h
 ·cases h
 rename_i h3;split at h
 ·cases h
 rename_i h4;exact⟨aq h1,aq h2,aq h3,aq h4⟩
def zuB{l:List mG}{i:Nat}{c:mG}(hc:l[i]?=some c)(h:B6 l i=0):yH c.name=true:=by
 unfold B6 at h;rw[hc]at h;dsimp only at h;split at h
 ·cases h
 rename_i h1;simpa using h1
def zvu:yH []=false:=by decide
def zwh{s:Sna}(h:kq s=true){r:AD}(hr:r∈s.rules):0<=r.zi/\r.zi<s.zm.length:=by
 have h:(qy (Ax s)).1=0:=by unfold kq at h;simpa using h
 obtain⟨_,_,h3,h4⟩:=R7 h;obtain⟨i,hi⟩:=pJ.1 hr;have hi':(Ax s).zS[i]?=some (DP s r):=by unfold Ax;simp only[pj,hi,pM]
 have hz:=EO h4 i (gZ.1 hi').1;obtain⟨_,_,_,hn⟩:=Um hi' hz;have hn:s.zm.any (λc=>c.name == wH s.zm r.zi)=true:=hn;by_cases hb:0<=r.zi/\r.zi<s.zm.length
 ·exact hb
 ·unfold wH at hn;rw[pw hb]at hn;obtain⟨c,hc,he⟩:=sb.1 hn;obtain⟨j,hj⟩:=pJ.1 hc;have:=zuB hj (EO h3 j (gZ.1 hj).1);rw[show c.name=[] from aq he,zvu]at this;cases this
def Vc{s:Sna}(h:kq s=true)(n hh p:lH):0<=(jW s n hh p).1/\∃c,s.zm[(jW s n hh p).1.toNat]?=some c:=by
 have g:=(xh h).zm.1;have zero:∃c,s.zm[(0:Int).toNat]?=some c:=⟨s.zm[0]'aw,pa aw⟩;unfold jW;split
 ·exact⟨p8 _,zero⟩
 ·split
  ·exact⟨p8 _,zero⟩
  ·split
   ·rename_i r hr;have:=zwh h (pq hr);exact⟨this.1,s.zm[r.zi.toNat]'aw,pa aw⟩
   ·exact⟨p8 _,zero⟩
structure QH(x:mG)(e:En):Prop where
 is:Slp.mq e=true
 len:(e.next.length:Int)=x.yP
structure Cq(v:lJ):Prop where
 snap:kq v.snap=true
 len:v.zp.length=v.snap.zm.length
 Dp:∀(i:Nat) g x,v.zp[i]?=some g->v.snap.zm[i]?=some x->g.ends.length=x.zE.length/\∀e∈g.ends,QH x e
def RY{x:mG}{e:En}:D2 x e=false↔QH x e:=by
 unfold D2;constructor
 ·intro h;simp at h;exact⟨h.1,h.2⟩
 ·rintro⟨h1,h2⟩;simp[h1,h2]
def Vq{v:lJ}:B3 v=true↔Cq v:=by
 unfold B3;simp only[pG,pQ,pH,sJ];constructor
 ·rintro⟨⟨h1,h2⟩,h3⟩;refine⟨h1,h2,λi g x hg hx=>?_⟩;have:=h3 i (gZ.1 hg).1;unfold EY at this;rw[hg,hx]at this;simp only[pG,pQ,rZ,rI]at this;exact⟨this.1,λe he=>RY.1 (by simpa using this.2 e he)⟩
 ·rintro⟨h1,h2,h3⟩;refine⟨⟨h1,h2⟩,λi hi=>?_⟩;unfold EY;split
  ·rename_i g x hg hx;obtain⟨h4,h5⟩:=h3 i g x hg hx;simp only[pG,pQ,rZ,rI];exact⟨h4,λe he=>by simp[RY.2 (h5 e he)]⟩
  ·rfl
structure xa(w:Wor):Prop where
 ground:xH w=true
 current:0<=w.current/\w.current<w.zd.length
 zr:Go.Lim.mq w.zr=true
 bad:∀r∈w.zr,vM w r=false
 my:∀(i:Nat) v,w.zd[i]?=some v->Cq v/\v.qd=wG w.zr i
 lY:∀(i:Nat) l,w.zf[i]?=some l->Go.Gat.mq l=true/\zD w.zf l.name=i
def qO{w:Wor}:yQ w=true↔xa w:=by
 unfold yQ;simp only[pG,pQ,pH,sJ,rZ,rI];constructor
 ·rintro⟨⟨⟨⟨⟨h1,h2⟩,h3⟩,h4⟩,h5⟩,h6⟩;refine⟨h1,h2,h3,λr hr=>by simpa using h4 r hr,λi v hv=>?_,λi l hl=>?_⟩
  ·have:=h5 i (gZ.1 hv).1;unfold Df at this;rw[hv]at this;simp only[pG,rJ]at this;exact⟨Vq.1 this.1,this.2⟩
  ·have:=h6 i (gZ.1 hl).1;unfold AK at this;rw[hl]at this;simpa using this
 ·rintro⟨h1,h2,h3,h4,h5,h6⟩;refine⟨⟨⟨⟨⟨h1,h2⟩,h3⟩,λr hr=>by simp[h4 r hr]⟩,λi hi=>?_⟩,λi hi=>?_⟩
  ·unfold Df;split
   ·rename_i v hv;obtain⟨a,b⟩:=h5 i v hv;simp[Vq.2 a,b]
   ·rfl
  ·unfold AK;split
   ·rename_i l hl;obtain⟨a,b⟩:=h6 i l hl;simp[a,b]
   ·rfl
def Cq.oV{v:lJ}(h:Cq v):v.zp.length<=4/\∀g∈v.zp,g.ends.length<=4/\1<=g.ends.length/\∀e∈g.ends,Slp.mq e=true/\e.next.length<=4/\1<=e.next.length:=by
 have gn:=xh h.snap;refine⟨by have:=gn.zm.2;have:=h.len;omega,λg hg=>?_⟩;obtain⟨i,hi⟩:=pJ.1 hg;have lu:=(gZ.1 hi).1;obtain⟨x,hx⟩:∃x,v.snap.zm[i]?=some x:=⟨_,pa (by have:=h.len;omega)⟩;obtain⟨h1,h2⟩:=h.Dp i g x hi hx;have gx:=gn.all x (pq hx);refine⟨by have:=gx.zE.2;omega,by have:=gx.zE.1;omega,λe he=>?_⟩;have ge:=h2 e he;have gs:=gx.yP;exact⟨ge.is,by have:=ge.len;omega,by have:=ge.len;omega⟩
structure W0(w:Wor):Prop where
 pins:1<=w.pins.length/\w.pins.length<=8
 counts:w.counts.length=w.pins.length/\∀r∈w.counts,r.length=6
 zn:0<=w.zn/\w.zn<=1000000000000
 lock:w.lock=0\/w.lock=1
 BU:∀p∈w.pins,0<=p/\p<=w.zn+1
def qs{w:Wor}:xH w=true↔W0 w:=by
 unfold xH Fw;simp only[pG,sB,pQ,pH,rZ,rI,rJ];constructor
 ·rintro⟨⟨⟨⟨⟨⟨⟨h1,h2⟩,h3⟩,⟨h4,h5⟩,h6⟩,h7⟩,h8⟩,h9⟩,h10⟩;exact⟨⟨h1,h2⟩,⟨h3,h4⟩,⟨h7,h8⟩,h9,λp hp=>by have:=h10 p hp;simp[Dz]at this;omega⟩
 ·rintro⟨⟨h1,h2⟩,⟨h3,h4⟩,⟨h7,h8⟩,h9,h10⟩;exact⟨⟨⟨⟨⟨⟨⟨h1,h2⟩,h3⟩,⟨h4,aw⟩,aw⟩,h7⟩,h8⟩,h9⟩,λp hp=>by have:=h10 p hp;simp[Dz];omega⟩
def FL{N:Nat}{w:Wor}(h:xa w)(t:AE N w)(hN:N<=100000000):jF w:=by
 have g:=qs.1 h.ground;refine⟨by have:=g.pins;omega,⟨by have:=t.wC;omega,λv hv=>?_⟩,by have:=t.lY;omega,⟨by have:=g.counts.1;have:=g.pins;omega,λr hr=>by have:=g.counts.2 r hr;omega⟩,by have:=t.lim;omega⟩;obtain⟨i,hi⟩:=pJ.1 hv;have f:=(h.my i v hi).1.oV;exact⟨aw,λg hg=>⟨by have:=(f.2 g hg).1;omega,λe he=>by have:=((f.2 g hg).2.2 e he).2;omega⟩⟩
def FK{N:Nat}{w:Wor}(h:xa w)(t:AE N w)(hN:N<=100000000):nk w:=by
 have g:=qs.1 h.ground;refine⟨by have:=g.pins;omega,⟨by have:=t.wC;omega,λv hv=>?_⟩,⟨by have:=t.lY;omega,t.Bw⟩,⟨by have:=g.counts.1;have:=g.pins;omega,λr hr=>by have:=g.counts.2 r hr;omega⟩,by have:=t.lim;omega⟩;obtain⟨i,hi⟩:=pJ.1 hv;have f:=(h.my i v hi).1.oV;have o:=t.oO v hv;exact⟨o.1,aw,λg hg=>⟨by have:=(f.2 g hg).1;omega,(o.2 g hg).2⟩⟩
def Ww{w:Wor}(h:xa w){i:Nat}{v:lJ}(hv:w.zd[i]?=some v):Jh v:=by
 have f:=(h.my i v hv).1.oV;exact⟨aw,λg hg=>by have:=(f.2 g hg).1;omega⟩
def Zh{N:Nat}{w:Wor}{m:lh}(h:xa w)(t:AE N w)(tm:nh m){i:Nat}{v:lJ}(hv:w.zd[i]?=some v):L7 m v:=by
 have g:=(h.my i v hv).1;have o:=(t.oO v (pq hv)).1;refine⟨⟨o.zf.1,o.rules.1,λr hr=>o.rules.2 r hr⟩,tm.host,tm.path,tm.d0,tm.d1,λ_=>?_⟩;obtain⟨h0,c,hc⟩:=Vc g.snap m.op.listen m.op.host m.op.path;exact⟨h0,c,hc,by have:=((xh g.snap).all c (pq hc)).zE.2;omega⟩
def zw1{w:Wor}(h:xa w){t:Int}(h0:0<=t)(h1:t<w.pins.length):∃r,w.counts[t.toNat]?=some r/\r.length=6:=by
 have g:=qs.1 h.ground;have lu:t.toNat<w.counts.length:=by have:=g.counts.1;omega
 exact⟨_,pa lu,g.counts.2 _ (pY lu)⟩
def yO{α:Type}(l:List α)(i:Nat){x:α}(h:l[i]?=some x):l.set i x=l:=by
 obtain⟨h1,rfl⟩:=gZ.1 h;exact iD h1
def zs8{w:Wor}{m:lh}{v:lJ}{g:Gr}{e:En}(hat:m7 w m v g e):Aw w m v g e g.zx e.head e.zj=w:=by
 unfold Aw xN vC qE;rw[yO g.ends _ hat.mM,yO v.zp _ hat.mn,yO w.zd _ hat.at_]
abbrev FC(f:FuncId)(w:Wor)(m:lh)(r:Wor×lh×lD):Prop:=tp f [] [Cw w,Cm m] (.lK [Cw r.1,Cm r.2.1,Ce r.2.2]) []
def J9{w:Wor}{m:lh}{f:mj->Wor×lh×lD}{r:Wor×lh×lD}(h:vW w m f=some r):0<=m.listen/\∃x,w.zf[m.listen.toNat]?=some x/\r=f x:=by
 unfold vW at h;split at h
 ·cases h
 obtain⟨x,hx,rfl⟩:=pS.1 h;exact⟨aw,x,hx,rfl⟩
def R8{w:Wor}{m:lh}{k pc:Int}{r:Wor×lh×lD}(h:xQ w m k pc=some r):∃r0 x,w.counts[m.zg.toNat]?=some r0/\r0[k.toNat]?=some x/\
  r=({w with counts:=w.counts.set m.zg.toNat (r0.set k.toNat (IntKind.u64.wrap (x+1)))},{m with pc:=pc},mD m 3 10 k):=by
 unfold xQ at h;split at h
 ·cases h
 split at h
 ·cases h
 rename_i r0 h1 _ x h2;exact⟨r0,x,h1,h2,(pz h).symm⟩
def ja.at_{w:Wor}{m:lh}{v:lJ}{g:Gr}{e:En}(su:ja w m v g e):m7 w m v g e:=⟨⟨⟨su.version.1,su.mu⟩,su.zi.1,su.mn⟩,su.end_.1,su.mM⟩
def zr6(n:Int):0<=C8 n/\C8 n<=5:=by
 unfold C8;split <;> omega
section
variable {N:Nat} {w:Wor} {m:lh} {v:lJ} {g:Gr} {e:En} {r:Wor×lh×lD}
def ZL(su:ja w m v g e)(hs:ql w m=true)(t:AE N w)(tm:nh m)(hN:N<=100000000)(h3:m.pc<3)(h:AN w m=some r):FC 126 w m r:=by
 have gw:=qO.1 su.world;have sw:=FL gw t hN;have ok:=FK gw t hN;unfold AN at h;split at h
 ·rename_i hpc;cases h
  exact Ns aw h3 (zsA w m sw ok tm.listen hpc hs)
 split at h
 ·rename_i hpc;cases h
  exact Ns aw h3 (zsB w m sw ok tm.listen hpc hs)
 split at h
 ·rename_i hpc;cases h
  exact Ns aw h3 (zsC w m sw ok tm.listen hpc hs)
 ·cases h
def zpm(su:ja w m v g e)(hs:ql w m=true)(t:AE N w)(tm:nh m)(hN:N<=100000000)(h:zY w m v g e=some r):FC 126 w m r:=by
 have gw:=qO.1 su.world;have sw:=FL gw t hN;have ok:=FK gw t hN;have hl:=tm.listen;have at_:=su.at_;have gv:=(gw.my _ v su.mu).1;have oe:=(t.oO v (pq su.mu)).2 g (pq su.mn);have okE:=oe.2 e (pq su.mM)
 have hne:e.next≠[]:=by
  intro h0;have:=su.slot;rw[h0]at this;exact dB
 unfold zY at h;by_cases h3:m.pc<3
 ·rw[pA h3]at h;exact ZL su hs t tm hN h3 h
 rw[pw h3]at h;by_cases p:m.pc=3
 ·rw[pA p]at h;cases h
  exact zxy sw ok hl p hs (zgD w m (by have:=t.lY;omega))
 rw[pw p]at h
 clear p
 by_cases p:m.pc=4
 ·rw[pA p]at h;obtain⟨l0,x,hx,rfl⟩:=J9 h;exact zxz sw ok hl p hs l0 aj (zo6 w m x l0 hx)
 rw[pw p]at h
 clear p
 by_cases p:m.pc=5
 ·rw[pA p]at h;obtain⟨l0,x,hx,rfl⟩:=J9 h;exact zxA sw ok hl p hs l0 (ziU w m v at_.toCT (Zh gw t tm su.mu) l0 hx)
 rw[pw p]at h
 clear p
 by_cases p:m.pc=6
 ·rw[pA p]at h;obtain⟨c,hc,rfl⟩:=pS.1 h;exact zxB sw ok hl p hs at_ hne (zop w m v g e c at_.ln hc oe.1 (by have:=((xh gv.snap).all c (pq hc)).zE.2;omega))
 rw[pw p]at h
 clear p
 by_cases p:m.pc=7
 ·rw[pA p]at h;cases h
  exact zxC sw ok hl p hs (zgq w m v g e at_)
 rw[pw p]at h
 clear p
 by_cases p:m.pc=8
 ·rw[pA p]at h;obtain⟨e2,he2,rfl⟩:=pS.1 h;exact zxD sw ok hl p hs (zgN w m v g e2 at_.toHw su.other.1 he2)
 rw[pw p]at h
 clear p
 by_cases p:m.pc=9
 ·rw[pA p]at h;by_cases q:0<=zG e.head/\zG e.head<e.next.length
  ·rw[pA q]at h;cases h
   exact Vf sw ok hl p hs (zkk w m v g e at_ okE.1 q)
  ·rw[pw q]at h;cases h
   exact Vf sw ok hl p hs (zhA w m v g e at_ okE.1 q)
 rw[pw p]at h
 clear p
 by_cases p:m.pc=10
 ·rw[pA p]at h;obtain⟨x,hx,rfl⟩:=pS.1 h;exact zuZ sw ok hl p hs (zkl w m v g e at_ su.slot.1 hx)
 rw[pw p]at h
 clear p
 by_cases p:m.pc=11
 ·rw[pA p]at h;by_cases q:e.head=m.word
  ·rw[pA q]at h;cases h
   exact TF sw ok hl p hs at_ hne (zhk w m v g e at_.ln tm.word tm.link.1 tm.link.2 q)
  ·rw[pw q]at h;cases h
   have:=TF sw ok hl p hs at_ hne (ziO w m v g e at_.ln tm.word tm.link.1 tm.link.2 okE.1 q)
   rwa [zs8 at_]at this
 rw[pw p]at h
 clear p
 by_cases p:m.pc=12
 ·rw[pA p]at h;cases h
  exact zu0 sw ok hl p hs at_ hne (zmH w m v g e at_.ln)
 rw[pw p]at h
 clear p
 by_cases p:m.pc=20
 ·rw[pA p]at h;obtain⟨r0,x,hr,hx,rfl⟩:=R8 h;exact zu1 sw ok hl p hs su.zg.1 hr (by rintro rfl;simp at hx) aj (ziQ w m r0 x _ rfl su.zg.1 hr hx)
 rw[pw p]at h
 clear p
 by_cases p:m.pc=21
 ·rw[pA p]at h;obtain⟨r0,x,hr,hx,rfl⟩:=R8 h;exact zu2 sw ok hl p hs su.zg.1 hr (by rintro rfl;simp at hx) aj (zjP w m r0 x su.zg.1 hr hx)
 rw[pw p]at h
 clear p
 by_cases p:m.pc=22
 ·rw[pA p]at h;obtain⟨l0,x,hx,rfl⟩:=J9 h;exact zu3 sw ok hl p hs l0 aj (zpv w m x l0 hx)
 rw[pw p]at h
 clear p
 by_cases p:m.pc=23
 ·rw[pA p]at h;cases h
  exact zu4 sw ok hl p hs (zqG w m sw ok hl hs)
 rw[pw p]at h;cases h
def zpb(su:ja w m v g e)(hs:ql w m=true)(t:AE N w)(tm:nh m)(hN:N<=100000000)(h:jO w m v g e=some r):FC 127 w m r:=by
 have gw:=qO.1 su.world;have sw:=FL gw t hN;have ok:=FK gw t hN;have hl:=tm.listen;have at_:=su.at_;have gv:=(gw.my _ v su.mu).1;have oe:=(t.oO v (pq su.mu)).2 g (pq su.mn);have okE:=oe.2 e (pq su.mM);have ln:=((gv.oV.2 g (pq su.mn)).2.2 e (pq su.mM)).2
 have hne:e.next≠[]:=by
  intro h0;rw[h0]at ln;simp at ln
 have sl:=su.slot;unfold jO at h;by_cases p:m.pc=0
 ·rw[pA p]at h;cases h
  exact zrr w m v g e sw ok hl p hs at_ tm.word okE.1
 rw[pw p]at h
 clear p
 by_cases p:m.pc=1
 ·rw[pA p]at h;cases h
  exact zrs w m v g e sw ok hl p hs at_ hne tm.word okE.1 sl.1 aw O O O
 rw[pw p]at h
 clear p
 by_cases p:m.pc=2
 ·rw[pA p]at h;by_cases q:e.head=m.word
  ·rw[pA q]at h;cases h
   exact zrt w m v g e sw ok hl p hs at_ hne tm.word okE.1 q aw aw O O O
  ·rw[pw q]at h;cases h
   exact znc w m v g e sw ok hl p hs at_ tm.word okE.1 q
 rw[pw p]at h
 clear p
 by_cases p:m.pc=3
 ·rw[pA p]at h;cases h
  exact zru w m v g e sw ok hl p hs at_ hne tm.word okE.1 O O O
 rw[pw p]at h
 clear p
 by_cases p:m.pc=4
 ·rw[pA p]at h;obtain⟨l0,x,hx,rfl⟩:=J9 h;exact zrv w m v g e x sw ok hl p hs at_ tm.word okE.1 l0 hx
 rw[pw p]at h
 clear p
 by_cases p:m.pc=9
 ·rw[pA p]at h;cases h
  exact zrw w m v g e sw ok hl p hs at_ tm.word okE.1
 rw[pw p]at h;cases h
end
section
variable {N:Nat} {w:Wor} {m:lh} {v:lJ} {g:Gr} {e:En} {r:Wor×lh×lD}
def zvd{l:List lH}{s:lH}(h:l.any (λx=>x == s)=true):Ck l (vF l s)=s:=by
 unfold vF;cases hf:l.findIdx? (λx=>x == s) with
 |none=>
  rw[pW]at hf;obtain⟨x,hx,he⟩:=sb.1 h;rw[hf x hx]at he;cases he
 |some i=>
  obtain⟨h1,h2,_⟩:=pO.1 hf;show Ck l ((i:Nat):Int)=s;unfold Ck;rw[pA ⟨aw,aq h1⟩];simp only[rA,pa h1,Option.getD_some];simpa using h2
def zvc{l:List mG}{s:lH}(h:wU l s=true):wH l (B8 l s)=s:=by
 unfold wU at h;unfold B8;cases hf:l.findIdx? (λx=>x.name == s) with
 |none=>
  rw[pW]at hf;obtain⟨x,hx,he⟩:=sb.1 h;rw[hf x hx]at he;cases he
 |some i=>
  obtain⟨h1,h2,_⟩:=pO.1 hf;show wH l ((i:Nat):Int)=s;unfold wH;rw[pA ⟨aw,aq h1⟩];simp only[rA,pa h1,pM,Option.getD_some];simpa using h2
def zut{c:mL}(h:(qy c).1=0):Ax (z7 c).1=c:=by
 obtain⟨_,_,_,h4⟩:=R7 h;unfold z7;rw[pw aw];obtain⟨ls,rs,cs⟩:=c;unfold Ax;simp only[sM,mL.mk.injEq,fj,and_true];refine rp λi=>?_
 rw[pj];cases hi:rs[i]? with
 |none=>rfl
 |some r=>
  obtain⟨a,_,_,b⟩:=Um (c:=⟨ls,rs,cs⟩) hi (EO h4 i (gZ.1 hi).1);simp only[pM,Function.comp,p9];unfold DP DG;dsimp only;rw[zvd a,zvc b]
def HS{c:mL}(h:(qy c).1=0):kq (z7 c).1=true:=by
 unfold kq;rw[zut h,h]
 rfl
def wL(c:mL):(z7 c).2.1=(qy c).1:=by
 unfold z7;split
 ·rfl
 ·rename_i h;simpa using (Decidable.of_not_not h).symm
def HP(c:mL):De c=(qy c).1:=by
 unfold De;rw[wL];split
 ·rfl
 ·rename_i h;have h:(qy c).1=0:=Decidable.of_not_not h;unfold qM;rw[pA (HS h),h]
def zwn(su:ja w m v g e)(hs:ql w m=true)(t:AE N w)(tm:nh m)(hN:N<=100000000)(hk:m.op.kind=3)(h:kU w m=some r):FC 128 w m r:=by
 have gw:=qO.1 su.world;have sw:=FL gw t hN;have ok:=FK gw t hN;have hl:=tm.listen;unfold kU at h;by_cases p:m.pc=0
 ·rw[pA p]at h;by_cases q:De m.op.config=0
  ·rw[pA q]at h;cases h
   exact zqs w m sw ok hl p hs (MT (tm.cfg hk) (by rw[<-HP];exact q)) q
  ·rw[pw q]at h;cases h
   exact zlw w m _ sw ok hl p hs (tm.cfg hk) (by rw[wL,HP]) q
 rw[pw p]at h
 clear p
 by_cases p:m.pc=1
 ·rw[pA p]at h;cases h
  exact zqt w m sw ok hl p hs
 rw[pw p]at h
 clear p
 by_cases p:m.pc=2
 ·rw[pA p]at h;cases q:Cy w m
  ·rw[q]at h;cases h
   cases hx:w.zr with
   |nil=>have:=zol w m sw ok hl p hs q hx;rwa [hx]at this
   |cons x l=>have:=zqu w m x l sw ok hl p hs q hx;rwa [hx]at this
  ·rw[q]at h;cases h
 rw[pw p]at h;cases h
def zrj(su:ja w m v g e)(hs:ql w m=true)(t:AE N w)(tm:nh m)(hN:N<=100000000)(h:yA w m=some r):FC 129 w m r:=by
 have gw:=qO.1 su.world;have sw:=FL gw t hN;have ok:=FK gw t hN;have hl:=tm.listen;unfold yA at h;by_cases p:m.pc=0
 ·rw[pA p]at h;by_cases q:zD w.zf m.op.listen<0
  ·rw[pA q]at h;cases h
   exact zlc w m sw ok hl p hs q
  ·rw[pw q]at h;obtain⟨x,hx,rfl⟩:=pS.1 h;exact zjS w m x sw ok hl p hs aw hx
 rw[pw p]at h;cases h
def zsW(su:ja w m v g e)(hs:ql w m=true)(t:AE N w)(tm:nh m)(hN:N<=100000000)(hk:m.op.kind=6)(h:xS w m=some r):FC 131 w m r:=by
 have gw:=qO.1 su.world;have sw:=FL gw t hN;have ok:=FK gw t hN;unfold xS at h;split at h
 rotate_left
 ·cases h
 rename_i p;obtain⟨rw_,h1,h2⟩:=pN.1 h;obtain⟨n,h3,rfl⟩:=pS.1 h2;exact zqi w m rw_ n sw ok tm.listen p.1 hs su.done ⟨su.i,h1,su.k,p.2,h3⟩ (tm.AY hk su.done)
def wi(gw:xa w){i:Nat}{x:mw}(hx:w.zr[i]?=some x):0<=x.at_/\x.at_<=w.zn/\0<=x.version/\x.version<w.zd.length/\x.version≠w.current:=by
 have h1:=gw.bad x (pq hx);have h2:=pF (show decide (∀i,(h:i<w.zr.length)->Go.Lim.m9 w.zr i w.zr[i]=true)=true from gw.zr) i (gZ.1 hx).1;rw[(gZ.1 hx).2]at h2;unfold vM at h1;unfold Go.Lim.m9 at h2;simp at h1 h2;omega
def VU(h0:0<=m.i):tp 169 [oW w,oM m] [.agg to] (Ce (nM w m).2.2) [⟨1,38,8,[kY (nM w m).1],0⟩,⟨1,95,44,[AT (nM w m).2.1],0⟩]:=by
 unfold nM;cases hx:w.zf[m.i.toNat]? with
 |none=>exact zfy w m (by have:=rH.1 hx;omega)
 |some l=>exact zhz w m l h0 hx
def zmZ(su:ja w m v g e)(hs:ql w m=true)(t:AE N w)(tm:nh m)(hN:N<=100000000)(h:jA w m=some r):FC 130 w m r:=by
 have gw:=qO.1 su.world;have sw:=FL gw t hN;have ok:=FK gw t hN;have hl:=tm.listen;have av:=su.at_.toCT;unfold jA at h;by_cases p:m.pc=0
 ·rw[pA p]at h;by_cases q:w.lock=0
  ·rw[pA q]at h;cases h
   (exact xp sw ok hl hs (yk w m aw) 0 _ O (λ_ _ _ _ _ _ _ _ _ _=>by rw[p];rfl) O (zln w m q))
  ·rw[pw q]at h;cases h
   (exact xp sw ok hl hs (yk w m aw) 0 _ O (λ_ _ _ _ _ _ _ _ _ _=>by rw[p];rfl) O (znA w m q))
 rw[pw p]at h
 clear p
 by_cases p:m.pc=1
 ·rw[pA p]at h;cases h
  (exact xp sw ok hl hs (yk w m aw) 1 _ O (λ_ _ _ _ _ _ _ _ _ _=>by rw[p];rfl) O (Go.Wor.ziV w m))
 rw[pw p]at h
 clear p
 by_cases p:m.pc=2
 ·rw[pA p]at h;obtain⟨x,hx,rfl⟩:=pS.1 h;have lu:=(gZ.1 hx).1;have si:=su.i;exact xp sw ok hl hs (zse w m p aw) 2 _ O (λ_ _ _ _ _ _ _ _ _ _=>by rw[p];rfl) O (zlm w m x su.i hx)
 rw[pw p]at h
 clear p
 by_cases p:m.pc=3
 ·rw[pA p]at h;by_cases q:w.zn=m.zn/\w.zn<1000000000000
  ·rw[pA q]at h;cases h
   (exact xp sw ok hl hs (yk w m aw) 3 _ O (λ_ _ _ _ _ _ _ _ _ _=>by rw[p];rfl) O (zf7 w m q.1 q.2))
  ·rw[pw q]at h;cases h
   (exact xp sw ok hl hs (yk w m aw) 3 _ O (λ_ _ _ _ _ _ _ _ _ _=>by rw[p];rfl) O (zhj w m q))
 rw[pw p]at h
 clear p
 by_cases p:m.pc=4
 ·rw[pA p]at h;cases hx:w.zr[m.i.toNat]? with
  |none=>
   rw[hx]at h;cases h
   (exact xp sw ok hl hs (yk w m aw) 4 _ O (λ_ _ _ _ _ _ _ _ _ _=>by rw[p];rfl) O (zfz (by have:=rH.1 hx;have:=su.i;omega) (VU (m:=nH m 8 0) (p8 _))))
  |some x=>
   rw[hx]at h;cases h
   have la:=wi gw hx;have ge:=(qs.1 gw.ground).zn
   (exact xp sw ok hl hs (yk w m aw) 4 _ O (λ_ _ _ _ _ _ _ _ _ _=>by rw[p];rfl) O (ziW w m x ⟨aw,aw⟩ su.i hx))
 rw[pw p]at h
 clear p
 by_cases p:m.pc=5
 ·rw[pA p]at h;obtain⟨v',hv',h⟩:=pN.1 h;obtain⟨x,hx,rfl⟩:=pS.1 h;have lu:=(gZ.1 hx).1;have sk:=su.k;exact xp sw ok hl hs (zsf w m v' (Ww gw hv') p ⟨su.version.1,hv'⟩ aw) 5 _ O (λ_ _ _ _ _ _ _ _ _ _=>by rw[p];rfl) O (zhy w m v' x (Ww gw hv') ⟨su.version.1,hv'⟩ su.k hx)
 rw[pw p]at h
 clear p
 by_cases p:m.pc=6
 ·rw[pA p]at h;obtain⟨v',hv',h⟩:=pN.1 h;obtain⟨x,hx,h⟩:=pN.1 h;split at h
  rotate_left
  ·cases h
  rename_i q;cases h
  exact zm3 sw ok hl hs (zsg w m x p su.i hx q.1 q.2) 6 _ O (λ_ _ _ _ _ _ _ _ _ _=>by rw[p];rfl) O (by rintro h0;rw[h0]at hv';simp at hv') (by rintro h0;rw[h0]at hx;simp at hx) aj aj (HU w m v' x ⟨su.version.1,hv'⟩ su.i hx)
 rw[pw p]at h
 clear p
 by_cases p:m.pc=8
 ·rw[pA p]at h;cases h
  (exact xp sw ok hl hs (yk w m aw) 7 _ O (λ_ _ _ _ _ _ _ _ _ _=>by rw[p];rfl) O (VU su.i))
 rw[pw p]at h
 clear p
 by_cases p:m.pc=9
 ·rw[pA p]at h;obtain⟨x,hx,rfl⟩:=pS.1 h;have lu:=(gZ.1 hx).1;have si:=su.i;exact xp sw ok hl hs (zsh w m p aw) 8 _ O (λ_ _ _ _ _ _ _ _ _ _=>by rw[p];rfl) O (zhB w m x su.i hx)
 rw[pw p]at h
 clear p
 by_cases p:m.pc=10
 ·rw[pA p]at h;obtain⟨x,hx,h⟩:=pN.1 h;split at h
  rotate_left
  ·cases h
  rename_i q;cases h
  exact zm4 sw ok hl hs (zpE w m x p su.i hx q) 9 _ O (λ_ _ _ _ _ _ _ _ _ _=>by rw[p];rfl) O (by rintro h0;rw[h0]at hx;simp at hx) aj (zsQ w m x su.i hx)
 rw[pw p]at h;cases h
end
end Go.Wor
namespace Go.Wor
open Go.Ab Go.Proofs Tryz Go.Gat Go.Nam Go.Hos Go.Con Go.Sna Go.Pla
open Go.Hy hiding encI
abbrev zzB(w:Wor)(m:lh)(r:Wor×lh×lD):Prop:=tp 63 [] [Sw w,Sm m] (Sr r.1 r.2.1 r.2.2) []
def zsD{N:Nat}{w:Wor}{m:lh}{r:Wor×lh×lD}(hs:ql w m=true)(t:AE N w)(tm:nh m)(hN:N<=100000000)(h:yu w m=some r):zzB w m r:=by
 obtain⟨v,g,e,su⟩:=yh hs;unfold yu at h;rw[su.mu]at h;dsimp only at h;rw[su.mn]at h;dsimp only at h;rw[su.mM]at h;dsimp only at h;by_cases k:m.op.kind=1
 ·rw[pA k]at h;exact zqj k (zpm su hs t tm hN h)
 rw[pw k]at h
 clear k
 by_cases k:m.op.kind=2
 ·rw[pA k]at h;exact zqk k (zpb su hs t tm hN h)
 rw[pw k]at h
 clear k
 by_cases k:m.op.kind=3
 ·rw[pA k]at h;exact zql k (zwn su hs t tm hN k h)
 rw[pw k]at h
 clear k
 by_cases k:m.op.kind=4
 ·rw[pA k]at h;exact zqm k (zrj su hs t tm hN h)
 rw[pw k]at h
 clear k
 by_cases k:m.op.kind=5
 ·rw[pA k]at h;exact zqn k (zmZ su hs t tm hN h)
 rw[pw k]at h
 clear k
 by_cases k:m.op.kind=6
 ·rw[pA k]at h;exact zqo k (zsW su hs t tm hN k h)
 rw[pw k]at h;cases h
end Go.Wor
