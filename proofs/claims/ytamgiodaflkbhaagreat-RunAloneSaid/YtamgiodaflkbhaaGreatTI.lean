import Derived.Test.YtamgiodaflkbhaaGreatTY
import Derived.Test.YtamgiodaflkbhaaGreatTG
import Derived.Test.YtamgiodaflkbhaaGreatTH
import Derived.Test.YtamgiodaflkbhaaGreatTZ
set_option linter.all false
set_option maxRecDepth 100000
set_option maxHeartbeats 4000000
namespace Go.Wor
open Go.Ab Go.Proofs Tryz Go.Hy Go.Gat Go.Nam Go.Hos Go.Con Go.Sna
variable{c:fC}{i N:Nat}{r:Wor×eQ×e7}{l:List fq}{s:Sna}{e:En}{v:eX}{w:Wor}{m:eQ}{g:Gr}
def O4(w:Wor)(m:eQ)(v:eX)(g:Gr)(e:En)(sw:z6 w)(ok:fa w)(hl:i64 m.listen)(hpc:m.pc=2)(hs:zE w m=true)(hat:fF w m v g e)(hw:u64 m.word)(hh:u64 e.head)(hne:e.head≠m.word):
  th 138 [] [Cw w,Cm m] (.eR [Cw w,Cm {m with pc:=0},Ce (fD m v 5 8 (e.head%4294967296-1))]) []:=by
 have a0:=hat.v0;have a1:=hat.tolS.row;have b0:=hat.g0;have b1:(v.zg.map zy)[m.zp.toNat]?=some (zy g):=by rw[gM,hat.fV];rfl
 have c0:=hat.e0;have c1:(g.ends.map zu)[m.end_.toNat]?=some (zu e):=by rw[gM,hat.ig];rfl
 refine ab func138 ?_;refine zad ?_
 refine zce ?_
 refine td ?_
 refine af (qx w sw) ?_;refine uE ?_;(refine⟨a0,_,a1,dd ?_⟩)
 (refine⟨b0,_,b1,dd ?_⟩)
 (refine⟨c0,_,c1,dd ?_⟩)
 refine zax ?_
 refine za5 ?_
 refine zaC ?_
 refine zad ?_
 refine uE ?_;refine⟨λ_=>dd ?_,λh=>absurd h (ai hne)⟩;refine wK.go V (uH ?_);refine zbj ?_
 exact uI
def Np(w:Wor)(m:eQ)(v:eX)(g:Gr)(e:En)(hv:fF w m v g e)(he:u64 e.head)(hi:¬(0<=e.head%4294967296-1/\e.head%4294967296-1<e.next.length)):
  th 215 [oW w,oM m] [.agg tg] (Ce (fD m v 1 8 (e.head%4294967296-1))) [oW w,oM (kf {m with word:=e.head} 4)]:=by
 have ml:(e.next.map Go.Hy.encI).length=e.next.length:=gO ..;refine aa func215 ?_;refine DS [0,1] (kR w m v g e hv) V V V V V V (dd ?_);refine af (Slp.qG e.head he) ?_;refine⟨λq1=>?_,λq1=>?_⟩
 .refine zac ?_
  exact zbM
 .refine dd ?_;refine DS [0,1] (kR w {m with word:=e.head} v g e ⟨⟨⟨hv.v0,hv.at_⟩,hv.g0,hv.fV⟩,hv.e0,hv.ig⟩) V V V V V V (dd ?_);rw[ml];refine⟨λq2=>?_,λq2=>?_⟩
  .refine zac ?_
   exact zbM
  .exact absurd ⟨bJ,by simp at q2;omega⟩ hi
abbrev ny:=Option (Wor×eQ×e7)
def BT(w:Wor)(m:eQ):ny:=
 if m.pc=0 then some (w,{m with zr:=w.zr,pc:=1},mN m (nz w.zr))
 else if m.pc=1 then some (lN w m.zl.toNat (IntKind.i64.wrap (m.zr+1)),{m with pc:=2},mN m ⟨0,0,2,2,0,false,IntKind.i64.wrap (m.zr+1),false,false,false,kk⟩)
 else if m.pc=2 then some (w,{m with zr:=w.zr,pc:=if w.zr=m.zr then 3 else 1},mN m (nz w.zr))
 else none
abbrev AK(x:fj):fj:={x with zo:=IntKind.i64.wrap (x.zo+1)}
abbrev zR(x:Int):Int:=x%4294967296-1
abbrev CB(m:eQ):fe:=⟨1,m.version,m.zp,m.end_,m.slot,m.listen,0,⟨0,0,0,0,0,0⟩⟩
def BJ(w:Wor)(m:eQ)(k pc:Int):ny:=match w.counts[m.zl.toNat]? with
 |none=>none
 |some r0=>match r0[k.toNat]? with
  |none=>none
  |some x=>some ({w with counts:=w.counts.set m.zl.toNat (r0.set k.toNat (IntKind.u64.wrap (x+1)))},{m with pc:=pc},fc m 3 10 k)
def nN(w:Wor)(m:eQ)(f:fj->Wor×eQ×e7):ny:=if m.listen<0 then none else (w.zc[m.listen.toNat]?).map f
def wR(w:Wor)(m:eQ)(v:eX)(g:Gr)(e:En):ny:=
 if m.pc<3 then BT w m
 else if m.pc=3 then some (w,if z7 w.zc m.op.listen<0 then kf (Aa w m) 2 else Aa w m,EU (fc m 1 3 w.current))
 else if m.pc=4 then nN w m λx=>({w with zc:=w.zc.set m.listen.toNat (AK x)},{m with pc:=5},fc m 3 5 (IntKind.i64.wrap (x.zo+1)))
 else if m.pc=5 then nN w m λl=>(w,if l.drain then kf m 5 else yl m v,if l.drain then {fc m 1 4 1 with jj:=true} else fc m 1 4 0)
 else if m.pc=6 then (v.snap.zi[m.zp.toNat]?).map λc=>(vv w m v g e (IntKind.u64.wrap (g.zC+1)) e.head e.zo,DZ m c g.zC,fD m v 3 6 (IntKind.i64.wrap g.zC))
 else if m.pc=7 then some (w,{m with i:=e.zo,pc:=8},fD m v 1 7 e.zo)
 else if m.pc=8 then (g.ends[m.other.toNat]?).map λe2=>(w,{m with end_:=if e2.zo<m.i then m.other else m.end_,pc:=9},fD m v 1 7 e2.zo)
 else if m.pc=9 then some (w,if 0<=zR e.head/\zR e.head<e.next.length then {m with word:=e.head,slot:=zR e.head,pc:=10} else kf {m with word:=e.head} 4,fD m v 1 8 (zR e.head))
 else if m.pc=10 then (e.next[m.slot.toNat]?).map λx=>(w,{m with link:=x,pc:=11},fD m v 1 9 x)
 else if m.pc=11 then (if e.head=m.word then some (vv w m v g e g.zC (Slp.y9 m.word m.link) e.zo,{m with pc:=12},fD m v 4 8 m.slot) else some (w,{m with pc:=9},fD m v 5 8 (zR e.head)))
 else if m.pc=12 then some (vv w m v g e g.zC e.head (IntKind.i64.wrap (e.zo+1)),{m with answer:=CB m,pc:=20},fD m v 3 7 (IntKind.i64.wrap (e.zo+1)))
 else if m.pc=20 then BJ w m (wv m.answer.kind) 21
 else if m.pc=21 then BJ w m 0 (if m.answer.kind=1\/m.listen<0 then 23 else 22)
 else if m.pc=22 then nN w m λx=>({w with zc:=w.zc.set m.listen.toNat (kj x)},{m with pc:=23},fc m 3 5 (IntKind.i64.wrap (x.zo-1)))
 else if m.pc=23 then some (lN w m.zl.toNat 0,{m with done:=true},{AX m with done:=true,answer:=m.answer})
 else none
def kJ(w:Wor)(m:eQ)(v:eX)(g:Gr)(e:En):ny:=
 if m.pc=0 then some (w,{m with word:=e.head,pc:=1},fD m v 1 8 (zR e.head))
 else if m.pc=1 then some (vv w m v g (yn m e) g.zC e.head e.zo,{m with pc:=2},fD m v 2 9 (zR m.word))
 else if m.pc=2 then (if e.head=m.word then some (vv w m v g e g.zC (Slp.y9 m.word m.slot) e.zo,{m with pc:=3},{fD m v 4 8 m.slot with jj:=true}) else some (w,{m with pc:=0},fD m v 5 8 (zR e.head)))
 else if m.pc=3 then some (vv w m v g e g.zC e.head (IntKind.i64.wrap (e.zo-1)),{m with pc:=4},fD m v 3 7 (IntKind.i64.wrap (e.zo-1)))
 else if m.pc=4 then nN w m λx=>({w with zc:=w.zc.set m.listen.toNat (kj x)},{m with answer:=C0 m,done:=true},G8 m x)
 else if m.pc=9 then some (w,{m with answer:=wG 7,done:=true},G6 m)
 else none
def oR(w:Wor)(m:eQ):ny:=
 if m.pc=0 then (if mI m.op.config=0 then some ({w with current:=w.zd.length,zd:=w.zd++[mJ m.op.config]},Bd m w.current w.zd.length,{fc m 6 3 w.zd.length with jj:=true})
  else some (w,{m with done:=true,answer:=nC (mI m.op.config)},{fc m 1 3 w.current with jj:=true,done:=true,answer:=nC (mI m.op.config)}))
 else if m.pc=1 then some (w,{m with zr:=w.zr,pc:=2},fc m 1 1 w.zr)
 else if m.pc=2 then (if yD w m then none else some ({w with zn:=w.zn++[⟨m.version,m.zr,false⟩]},{m with done:=true,answer:=np m},{fc m 2 11 m.version with done:=true,answer:=np m}))
 else none
abbrev C6(p:Int):fe:=⟨10,0,0,0,0,p,0,⟨0,0,0,0,0,0⟩⟩
def Ag(w:Wor)(m:eQ):ny:=
 if m.pc=0 then (if z7 w.zc m.op.listen<0 then some (w,{m with done:=true,answer:=wG 7},{Dh m with done:=true,answer:=wG 7})
  else (w.zc[(z7 w.zc m.op.listen).toNat]?).map λx=>({w with zc:=w.zc.set (z7 w.zc m.op.listen).toNat (Go.Gat.wj x)},{m with listen:=z7 w.zc m.op.listen,done:=true,answer:=C6 (z7 w.zc m.op.listen)},{Ex m with done:=true,answer:=C6 (z7 w.zc m.op.listen)}))
 else none
def iY(w:Wor)(m:eQ):Wor×eQ×e7:=match w.zc[m.i.toNat]? with
 |none=>({w with lock:=0},{m with done:=true,answer:=As 11 m.answer.n},{fc m 2 14 0 with done:=true,answer:=As 11 m.answer.n})
 |some l=>(w,ER m l,MO m l)
def xj(w:Wor)(m:eQ):ny:=
 if m.pc=0 then some (if w.lock=0 then ({w with lock:=1},{m with pc:=1},fc m 4 14 1) else (w,{m with done:=true,answer:=wG 12},{fc m 5 14 1 with done:=true,answer:=wG 12}))
 else if m.pc=1 then some (w,{m with zr:=w.zr,pc:=2,i:=0},fc m 1 1 w.zr)
 else if m.pc=2 then (w.pins[m.i.toNat]?).map λp=>(w,nU w m p,fc m 1 2 p)
 else if m.pc=3 then some (if w.zr=m.zr/\w.zr<1000000000000 then ({w with zr:=IntKind.i64.wrap (w.zr+1)},{fJ m 4 0 with zr:=IntKind.i64.wrap (w.zr+1)},fc m 4 1 (IntKind.i64.wrap (w.zr+1))) else (w,fJ m 4 0,fc m 5 1 w.zr))
 else if m.pc=4 then some (match w.zn[m.i.toNat]? with|none=>iY w (fJ m 8 0)|some r=>(w,oz m r,fc m 1 11 r.version))
 else if m.pc=5 then (w.zd[m.version.toNat]?).bind λv=>((jb v)[m.k.toNat]?).map λe=>(w,o9 m v e.zo,EP m v e.zo)
 else if m.pc=6 then (w.zd[m.version.toNat]?).bind λv=>(w.zn[m.i.toNat]?).bind λr=>if r.version=m.version/\r.gone=false then
  some ({w with zd:=w.zd.set m.version.toNat (AH v),zn:=w.zn.set m.i.toNat (mM r)},Bb m,fc m 2 12 m.version) else none
 else if m.pc=8 then some (iY w m)
 else if m.pc=9 then (w.zc[m.i.toNat]?).map λl=>(w,if l.zo=0 then {m with pc:=10} else fJ m 8 (IntKind.i64.wrap (m.i+1)),fc m 1 5 l.zo)
 else if m.pc=10 then (w.zc[m.i.toNat]?).bind λl=>if l.drain then some ({w with zc:=w.zc.set m.i.toNat (Ao l)},fJ m 8 (IntKind.i64.wrap (m.i+1)),fc m 2 13 1) else none
 else none
def oI(w:Wor)(m:eQ):ny:=
 if m.pc=0/\m.k<6 then (w.counts[m.i.toNat]?).bind λr=>(r[m.k.toNat]?).map λn=>(w,vr w m n,AP w m n) else none
def nJ(w:Wor)(m:eQ):ny:=match w.zd[m.version.toNat]? with
 |none=>none
 |some v=>match v.zg[m.zp.toNat]? with
  |none=>none
  |some g=>match g.ends[m.end_.toNat]? with
   |none=>none
   |some e=>if m.op.kind=1 then wR w m v g e else if m.op.kind=2 then kJ w m v g e else if m.op.kind=3 then oR w m else if m.op.kind=4 then Ag w m
    else if m.op.kind=5 then xj w m else if m.op.kind=6 then oI w m else none
structure fG(N:Nat)(w:Wor):Prop where
 iO:w.zd.length<=N
 fT:w.zc.length<=N
 iQ:w.zn.length<=N
 ij:∀v∈w.zd,yR v.snap/\∀g∈v.zg,u64 g.zC/\∀e∈g.ends,e.ok
 iI:∀l∈w.zc,l.ok
structure im(m:eQ):Prop where
 listen:i64 m.listen
 word:u64 m.word
 link: -1<=m.link/\m.link<=2147483646
 host:m.op.host.length<4000000000000
 path:m.op.path.length<4000000000000
 d0:i64 m.op.d0
 d1:i64 m.op.d1
 cfg:m.op.kind=3->yf m.op.config
 o7:m.op.kind=6->m.done=false->m.answer=kk
def II(h:(qp c).1=0):(xX c).1=0/\(ja (lD c.zc) c.zc.length).1=0/\(ja (iE c.zi) c.zi.length).1=0/\(ja (iS c) c.zK.length).1=0:=by
 unfold qp at h;split at h
 .contradiction
 rename_i h1;split at h
 .contradiction
 rename_i h2;split at h
 .contradiction
 rename_i h3;split at h
 .contradiction
 rename_i h4;exact⟨ai h1,Decidable.of_not_not h2,Decidable.of_not_not h3,Decidable.of_not_not h4⟩
def J7{r:mr}(hr:c.zK[i]?=some r)(h:iS c i=0):c.zc.any (λx=>x == r.listen)=true/\iN r.host=true/\kE r.path=true/\yi c.zi r.zp=true:=by
 unfold iS at h;rw[hr]at h;dsimp only at h;split at h
 .cases h
 rename_i h1;split at h
 .cases h
 rename_i h2;split at h
 .cases h
 rename_i h3;split at h
 .cases h
 rename_i h4;exact⟨ai h1,ai h2,ai h3,ai h4⟩
def TR{c:fq}(hc:l[i]?=some c)(h:iE l i=0):jO c.name=true:=by
 unfold iE at h;rw[hc]at h;dsimp only at h;split at h
 .cases h
 rename_i h1;simpa using h1
def Tt:jO []=false:=by decide
def UE(h:yN s=true){r:fU}(hr:r∈s.rules):0<=r.zp/\r.zp<s.zi.length:=by
 have h:(qp (iD s)).1=0:=by unfold yN at h;simpa using h
 obtain⟨_,_,h3,h4⟩:=II h;obtain⟨i,hi⟩:=pA.1 hr;have hi':(iD s).zK[i]?=some (iT s r):=by unfold iD;simp only[gM,hi,g9]
 have hz:=D6 h4 i (gN.1 hi').1;obtain⟨_,_,_,hn⟩:=J7 hi' hz;have hn:s.zi.any (λc=>c.name == xr s.zi r.zp)=true:=hn;by_cases hb:0<=r.zp/\r.zp<s.zi.length
 .exact hb
 .unfold xr at hn;rw[gP hb]at hn;obtain⟨c,hc,he⟩:=ri.1 hn;obtain⟨j,hj⟩:=pA.1 hc;have:=TR hj (D6 h3 j (gN.1 hj).1);rw[show c.name=[] from ai he,Tt]at this;cases this
def U9(h:yN s=true)(n hh p:eU):0<=(ks s n hh p).1/\∃c,s.zi[(ks s n hh p).1.toNat]?=some c:=by
 have g:=(yd h).zi.1;have zero:∃c,s.zi[(0:Int).toNat]?=some c:=⟨s.zi[0]'an,gL an⟩;unfold ks;split
 .exact⟨sA _,zero⟩
 .split
  .exact⟨sA _,zero⟩
  .split
   .rename_i r hr;have:=UE h (gT hr);exact⟨this.1,s.zi[r.zp.toNat]'an,gL an⟩
   .exact⟨sA _,zero⟩
structure Mr(x:fq)(e:En):Prop where
 is:Slp.fm e=true
 len:(e.next.length:Int)=x.xY
structure n8(v:eX):Prop where
 snap:yN v.snap=true
 len:v.zg.length=v.snap.zi.length
 Di:∀(i:Nat) g x,v.zg[i]?=some g->v.snap.zi[i]?=some x->g.ends.length=x.zL.length/\∀e∈g.ends,Mr x e
def Ix{x:fq}:yu x e=false↔Mr x e:=by
 unfold yu;constructor
 .intro h;simp at h;exact⟨h.1,h.2⟩
 .rintro⟨h1,h2⟩;simp[h1,h2]
def DO:kO v=true↔n8 v:=by
 unfold kO;simp only[gY,pE,gV,rS];constructor
 .rintro⟨⟨h1,h2⟩,h3⟩;refine⟨h1,h2,λi g x hg hx=>?_⟩;have:=h3 i (gN.1 hg).1;unfold kD at this;rw[hg,hx]at this;simp only[gY,pE,pS,pI]at this;exact⟨this.1,λe he=>Ix.1 (by simpa using this.2 e he)⟩
 .rintro⟨h1,h2,h3⟩;refine⟨⟨h1,h2⟩,λi hi=>?_⟩;unfold kD;split
  .rename_i g x hg hx;obtain⟨h4,h5⟩:=h3 i g x hg hx;simp only[gY,pE,pS,pI];exact⟨h4,λe he=>by simp[Ix.2 (h5 e he)]⟩
  .rfl
structure jX(w:Wor):Prop where
 ground:jt w=true
 current:0<=w.current/\w.current<w.zd.length
 zn:Go.Lim.fm w.zn=true
 bad:∀r∈w.zn,yv w r=false
 il:∀(i:Nat) v,w.zd[i]?=some v->n8 v/\v.qF=yK w.zn i
 fT:∀(i:Nat) l,w.zc[i]?=some l->Go.Gat.fm l=true/\z7 w.zc l.name=i
def qq:jW w=true↔jX w:=by
 unfold jW;simp only[gY,pE,gV,rS,pS,pI];constructor
 .rintro⟨⟨⟨⟨⟨h1,h2⟩,h3⟩,h4⟩,h5⟩,h6⟩;refine⟨h1,h2,h3,λr hr=>by simpa using h4 r hr,λi v hv=>?_,λi l hl=>?_⟩
  .have:=h5 i (gN.1 hv).1;unfold nK at this;rw[hv]at this;simp only[gY,pU]at this;exact⟨DO.1 this.1,this.2⟩
  .have:=h6 i (gN.1 hl).1;unfold nc at this;rw[hl]at this;simpa using this
 .rintro⟨h1,h2,h3,h4,h5,h6⟩;refine⟨⟨⟨⟨⟨h1,h2⟩,h3⟩,λr hr=>by simp[h4 r hr]⟩,λi hi=>?_⟩,λi hi=>?_⟩
  .unfold nK;split
   .rename_i v hv;obtain⟨a,b⟩:=h5 i v hv;simp[DO.2 a,b]
   .rfl
  .unfold nc;split
   .rename_i l hl;obtain⟨a,b⟩:=h6 i l hl;simp[a,b]
   .rfl
def n8.lZ(h:n8 v):v.zg.length<=4/\∀g∈v.zg,g.ends.length<=4/\1<=g.ends.length/\∀e∈g.ends,Slp.fm e=true/\e.next.length<=4/\1<=e.next.length:=by
 have gn:=yd h.snap;refine⟨by have:=gn.zi.2;have:=h.len;omega,λg hg=>?_⟩;obtain⟨i,hi⟩:=pA.1 hg;have eP:=(gN.1 hi).1;obtain⟨x,hx⟩:∃x,v.snap.zi[i]?=some x:=⟨_,gL (by have:=h.len;omega)⟩;obtain⟨h1,h2⟩:=h.Di i g x hi hx;have gx:=gn.all x (gT hx);refine⟨by have:=gx.zL.2;omega,by have:=gx.zL.1;omega,λe he=>?_⟩;have ge:=h2 e he;have gs:=gx.xY;exact⟨ge.is,by have:=ge.len;omega,by have:=ge.len;omega⟩
structure HH(w:Wor):Prop where
 pins:1<=w.pins.length/\w.pins.length<=8
 counts:w.counts.length=w.pins.length/\∀r∈w.counts,r.length=6
 zr:0<=w.zr/\w.zr<=1000000000000
 lock:w.lock=0\/w.lock=1
 Ad:∀p∈w.pins,0<=p/\p<=w.zr+1
def jZ:jt w=true↔HH w:=by
 unfold jt xV;simp only[gY,rI,pE,gV,pS,pI,pU];constructor
 .rintro⟨⟨⟨⟨⟨⟨⟨h1,h2⟩,h3⟩,⟨h4,h5⟩,h6⟩,h7⟩,h8⟩,h9⟩,h10⟩;exact⟨⟨h1,h2⟩,⟨h3,h4⟩,⟨h7,h8⟩,h9,λp hp=>by have:=h10 p hp;simp[nW]at this;omega⟩
 .rintro⟨⟨h1,h2⟩,⟨h3,h4⟩,⟨h7,h8⟩,h9,h10⟩;exact⟨⟨⟨⟨⟨⟨⟨h1,h2⟩,h3⟩,⟨h4,an⟩,an⟩,h7⟩,h8⟩,h9⟩,λp hp=>by have:=h10 p hp;simp[nW];omega⟩
def mH(h:jX w)(t:fG N w)(hN:N<=100000000):z6 w:=by
 have g:=jZ.1 h.ground;refine⟨by have:=g.pins;omega,⟨by have:=t.iO;omega,λv hv=>?_⟩,bL,⟨by have:=g.counts.1;have:=g.pins;omega,λr hr=>by have:=g.counts.2 r hr;omega⟩,by have:=t.iQ;omega⟩;obtain⟨i,hi⟩:=pA.1 hv;have f:=(h.il i v hi).1.lZ;exact⟨an,λg hg=>⟨by have:=(f.2 g hg).1;omega,λe he=>by have:=((f.2 g hg).2.2 e he).2;omega⟩⟩
def wV(h:jX w)(t:fG N w)(hN:N<=100000000):fa w:=by
 have g:=jZ.1 h.ground;refine⟨by have:=g.pins;omega,⟨by have:=t.iO;omega,λv hv=>?_⟩,⟨bL,t.iI⟩,⟨by have:=g.counts.1;have:=g.pins;omega,λr hr=>by have:=g.counts.2 r hr;omega⟩,by have:=t.iQ;omega⟩;obtain⟨i,hi⟩:=pA.1 hv;have f:=(h.il i v hi).1.lZ;have o:=t.ij v hv;exact⟨o.1,an,λg hg=>⟨by have:=(f.2 g hg).1;omega,(o.2 g hg).2⟩⟩
def AG(h:jX w)(hv:w.zd[i]?=some v):mR v:=by
 have f:=(h.il i v hv).1.lZ;exact⟨an,λg hg=>by have:=(f.2 g hg).1;omega⟩
def LV(h:jX w)(t:fG N w)(tm:im m)(hv:w.zd[i]?=some v):B2 m v:=by
 have g:=(h.il i v hv).1;have o:=(t.ij v (gT hv)).1;refine⟨⟨o.zc.1,o.rules.1,λr hr=>o.rules.2 r hr⟩,tm.host,tm.path,tm.d0,tm.d1,λ_=>?_⟩;obtain⟨h0,c,hc⟩:=U9 g.snap m.op.listen m.op.host m.op.path;exact⟨h0,c,hc,by have:=((yd g.snap).all c (gT hc)).zL.2;omega⟩
def Ub(h:jX w){t:Int}(h0:0<=t)(h1:t<w.pins.length):∃r,w.counts[t.toNat]?=some r/\r.length=6:=by
 have g:=jZ.1 h.ground;have eP:t.toNat<w.counts.length:=by have:=g.counts.1;omega
 exact⟨_,gL eP,g.counts.2 _ (pH eP)⟩
theorem kn{α:Type}(l:List α)(i:Nat){x:α}(h:l[i]?=some x):l.set i x=l:=by
 obtain⟨h1,rfl⟩:=gN.1 h;exact List.set_getElem_self h1
def R0(hat:fF w m v g e):vv w m v g e g.zC e.head e.zo=w:=by
 unfold vv xE mZ vu;rw[kn g.ends _ hat.ig,kn v.zg _ hat.fV,kn w.zd _ hat.at_]
abbrev yo(f:FuncId)(w:Wor)(m:eQ)(r:Wor×eQ×e7):Prop:=th f [] [Cw w,Cm m] (.eR [Cw r.1,Cm r.2.1,Ce r.2.2]) []
def y8{f:fj->Wor×eQ×e7}(h:nN w m f=some r):0<=m.listen/\∃x,w.zc[m.listen.toNat]?=some x/\r=f x:=by
 unfold nN at h;split at h
 .cases h
 obtain⟨x,hx,rfl⟩:=pN.1 h;exact⟨an,x,hx,rfl⟩
def wM{k pc:Int}(h:BJ w m k pc=some r):∃r0 x,w.counts[m.zl.toNat]?=some r0/\r0[k.toNat]?=some x/\
  r=({w with counts:=w.counts.set m.zl.toNat (r0.set k.toNat (IntKind.u64.wrap (x+1)))},{m with pc:=pc},fc m 3 10 k):=by
 unfold BJ at h;split at h
 .cases h
 split at h
 .cases h
 rename_i r0 h1 _ x h2;exact⟨r0,x,h1,h2,(rC h).symm⟩
def jN.at_(su:jN w m v g e):fF w m v g e:=⟨⟨⟨su.version.1,su.fR⟩,su.zp.1,su.fV⟩,su.end_.1,su.ig⟩
def Q9(n:Int):0<=wv n/\wv n<=5:=by
 unfold wv;split <;> omega
section
variable {N:Nat} {w:Wor} {m:eQ} {v:eX} {g:Gr} {e:En} {r:Wor×eQ×e7}
def W7(su:jN w m v g e)(hs:zE w m=true)(t:fG N w)(tm:im m)(hN:N<=100000000)(h3:m.pc<3)(h:BT w m=some r):yo 137 w m r:=by
 have gw:=qq.1 su.world;have sw:=mH gw t hN;have ok:=wV gw t hN;unfold BT at h;split at h
 .rename_i hpc;cases h
  exact Dr an h3 (SK w m sw ok tm.listen hpc hs)
 split at h
 .rename_i hpc;cases h
  exact Dr an h3 (SL w m sw ok tm.listen hpc hs)
 split at h
 .rename_i hpc;cases h
  exact Dr an h3 (SM w m sw ok tm.listen hpc hs)
 .cases h
def PX(su:jN w m v g e)(hs:zE w m=true)(t:fG N w)(tm:im m)(hN:N<=100000000)(h:wR w m v g e=some r):yo 137 w m r:=by
 have gw:=qq.1 su.world;have sw:=mH gw t hN;have ok:=wV gw t hN;have hl:=tm.listen;have at_:=su.at_;have gv:=(gw.il _ v su.fR).1;have oe:=(t.ij v (gT su.fR)).2 g (gT su.fV);have okE:=oe.2 e (gT su.ig)
 have hne:e.next≠[]:=by
  intro h0;have:=su.slot;rw[h0]at this;exact dt
 unfold wR at h;by_cases h3:m.pc<3
 .rw[gS h3]at h;exact W7 su hs t tm hN h3 h
 rw[gP h3]at h;by_cases p:m.pc=3
 .rw[gS p]at h;cases h
  exact Vc sw ok hl p hs (Nc w m bL)
 rw[gP p]at h
 clear p
 by_cases p:m.pc=4
 .rw[gS p]at h;obtain⟨l0,x,hx,rfl⟩:=y8 h;exact Vd sw ok hl p hs l0 ah (Qg w m x l0 hx)
 rw[gP p]at h
 clear p
 by_cases p:m.pc=5
 .rw[gS p]at h;obtain⟨l0,x,hx,rfl⟩:=y8 h;exact Ve sw ok hl p hs l0 (NA w m v at_.tolS (LV gw t tm su.fR) l0 hx)
 rw[gP p]at h
 clear p
 by_cases p:m.pc=6
 .rw[gS p]at h;obtain⟨c,hc,rfl⟩:=pN.1 h;exact Vf sw ok hl p hs at_ hne (Px w m v g e c at_.ln hc oe.1 bM)
 rw[gP p]at h
 clear p
 by_cases p:m.pc=7
 .rw[gS p]at h;cases h
  exact Vg sw ok hl p hs (Nb w m v g e at_)
 rw[gP p]at h
 clear p
 by_cases p:m.pc=8
 .rw[gS p]at h;obtain⟨e2,he2,rfl⟩:=pN.1 h;exact Vh sw ok hl p hs (Nd w m v g e2 at_.toB0 su.other.1 he2)
 rw[gP p]at h
 clear p
 by_cases p:m.pc=9
 .rw[gS p]at h;by_cases q:0<=zR e.head/\zR e.head<e.next.length
  .rw[gS q]at h;cases h
   exact KO sw ok hl p hs (NL w m v g e at_ okE.1 q)
  .rw[gP q]at h;cases h
   exact KO sw ok hl p hs (Np w m v g e at_ okE.1 q)
 rw[gP p]at h
 clear p
 by_cases p:m.pc=10
 .rw[gS p]at h;obtain⟨x,hx,rfl⟩:=pN.1 h;exact T2 sw ok hl p hs (NM w m v g e at_ su.slot.1 hx)
 rw[gP p]at h
 clear p
 by_cases p:m.pc=11
 .rw[gS p]at h;by_cases q:e.head=m.word
  .rw[gS q]at h;cases h
   exact Ks sw ok hl p hs at_ hne (Nu w m v g e at_.ln tm.word tm.link.1 tm.link.2 q)
  .rw[gP q]at h;cases h
   have:=Ks sw ok hl p hs at_ hne (Nw w m v g e at_.ln tm.word tm.link.1 tm.link.2 okE.1 q)
   rwa [R0 at_]at this
 rw[gP p]at h
 clear p
 by_cases p:m.pc=12
 .rw[gS p]at h;cases h
  exact T3 sw ok hl p hs at_ hne (O9 w m v g e at_.ln)
 rw[gP p]at h
 clear p
 by_cases p:m.pc=20
 .rw[gS p]at h;obtain⟨r0,x,hr,hx,rfl⟩:=wM h;exact T4 sw ok hl p hs su.zl.1 hr bN ah (Ny w m r0 x _ V su.zl.1 hr hx)
 rw[gP p]at h
 clear p
 by_cases p:m.pc=21
 .rw[gS p]at h;obtain⟨r0,x,hr,hx,rfl⟩:=wM h;exact T5 sw ok hl p hs su.zl.1 hr bN ah (NQ w m r0 x su.zl.1 hr hx)
 rw[gP p]at h
 clear p
 by_cases p:m.pc=22
 .rw[gS p]at h;obtain⟨l0,x,hx,rfl⟩:=y8 h;exact T6 sw ok hl p hs l0 ah (P1 w m x l0 hx)
 rw[gP p]at h
 clear p
 by_cases p:m.pc=23
 .rw[gS p]at h;cases h
  exact T7 sw ok hl p hs (QH w m sw ok hl hs)
 rw[gP p]at h;cases h
def Qi(su:jN w m v g e)(hs:zE w m=true)(t:fG N w)(tm:im m)(hN:N<=100000000)(h:kJ w m v g e=some r):yo 138 w m r:=by
 have gw:=qq.1 su.world;have sw:=mH gw t hN;have ok:=wV gw t hN;have hl:=tm.listen;have at_:=su.at_;have gv:=(gw.il _ v su.fR).1;have oe:=(t.ij v (gT su.fR)).2 g (gT su.fV);have okE:=oe.2 e (gT su.ig);have ln:=((gv.lZ.2 g (gT su.fV)).2.2 e (gT su.ig)).2
 have hne:e.next≠[]:=by
  intro h0;rw[h0]at ln;simp at ln
 have sl:=su.slot;unfold kJ at h;by_cases p:m.pc=0
 .rw[gS p]at h;cases h
  exact RR w m v g e sw ok hl p hs at_ tm.word okE.1
 rw[gP p]at h
 clear p
 by_cases p:m.pc=1
 .rw[gS p]at h;cases h
  exact RS w m v g e sw ok hl p hs at_ hne tm.word okE.1 sl.1 an V V V
 rw[gP p]at h
 clear p
 by_cases p:m.pc=2
 .rw[gS p]at h;by_cases q:e.head=m.word
  .rw[gS q]at h;cases h
   exact RT w m v g e sw ok hl p hs at_ hne tm.word okE.1 q an an V V V
  .rw[gP q]at h;cases h
   exact O4 w m v g e sw ok hl p hs at_ tm.word okE.1 q
 rw[gP p]at h
 clear p
 by_cases p:m.pc=3
 .rw[gS p]at h;cases h
  exact RU w m v g e sw ok hl p hs at_ hne tm.word okE.1 V V V
 rw[gP p]at h
 clear p
 by_cases p:m.pc=4
 .rw[gS p]at h;obtain⟨l0,x,hx,rfl⟩:=y8 h;exact RV w m v g e x sw ok hl p hs at_ tm.word okE.1 l0 hx
 rw[gP p]at h
 clear p
 by_cases p:m.pc=9
 .rw[gS p]at h;cases h
  exact Rg w m v g e sw ok hl p hs at_ tm.word okE.1
 rw[gP p]at h;cases h
end
section
variable {N:Nat} {w:Wor} {m:eQ} {v:eX} {g:Gr} {e:En} {r:Wor×eQ×e7}
def Tm{l:List eU}{s:eU}(h:l.any (λx=>x == s)=true):xH l (jR l s)=s:=by
 unfold jR;cases hf:l.findIdx? (λx=>x == s) with
 |none=>
  rw[pD]at hf;obtain⟨x,hx,he⟩:=ri.1 h;rw[hf x hx]at he;cases he
 |some i=>
  obtain⟨h1,h2,_⟩:=pB.1 hf;show xH l ((i:Nat):Int)=s;unfold xH;rw[gS ⟨an,ai h1⟩];simp only[um,gL h1,rm];simpa using h2
def Tl{s:eU}(h:yi l s=true):xr l (iA l s)=s:=by
 unfold yi at h;unfold iA;cases hf:l.findIdx? (λx=>x.name == s) with
 |none=>
  rw[pD]at hf;obtain⟨x,hx,he⟩:=ri.1 h;rw[hf x hx]at he;cases he
 |some i=>
  obtain⟨h1,h2,_⟩:=pB.1 hf;show xr l ((i:Nat):Int)=s;unfold xr;rw[gS ⟨an,ai h1⟩];simp only[um,gL h1,g9,rm];simpa using h2
def TN(h:(qp c).1=0):iD (qI c).1=c:=by
 obtain⟨_,_,_,h4⟩:=II h;unfold qI;rw[gP an];obtain⟨ls,rs,cs⟩:=c;unfold iD;simp only[sd,fC.mk.injEq,true_and,and_true];refine rh λi=>?_
 rw[gM];cases hi:rs[i]? with
 |none=>rfl
 |some r=>
  obtain⟨a,_,_,b⟩:=J7 (c:=⟨ls,rs,cs⟩) hi (D6 h4 i (gN.1 hi).1);simp only[g9,Function.comp,pG];unfold iT kG;dsimp only;rw[Tm a,Tl b]
def JD(h:(qp c).1=0):yN (qI c).1=true:=by
 unfold yN;rw[TN h,h]
 rfl
def Cd(c:fC):(qI c).2.1=(qp c).1:=by
 unfold qI;split
 .rfl
 .rename_i h;simpa using (Decidable.of_not_not h).symm
def kp(c:fC):mI c=(qp c).1:=by
 unfold mI;rw[Cd];split
 .rfl
 .rename_i h;have h:(qp c).1=0:=Decidable.of_not_not h;unfold qA;rw[gS (JD h),h]
def UK(su:jN w m v g e)(hs:zE w m=true)(t:fG N w)(tm:im m)(hN:N<=100000000)(hk:m.op.kind=3)(h:oR w m=some r):yo 139 w m r:=by
 have gw:=qq.1 su.world;have sw:=mH gw t hN;have ok:=wV gw t hN;have hl:=tm.listen;unfold oR at h;by_cases p:m.pc=0
 .rw[gS p]at h;by_cases q:mI m.op.config=0
  .rw[gS q]at h;cases h
   exact QB w m sw ok hl p hs (E5 (tm.cfg hk) (by rw[<-kp];exact q)) q
  .rw[gP q]at h;cases h
   exact ON w m _ sw ok hl p hs (tm.cfg hk) (by rw[Cd,kp]) q
 rw[gP p]at h
 clear p
 by_cases p:m.pc=1
 .rw[gS p]at h;cases h
  exact QC w m sw ok hl p hs
 rw[gP p]at h
 clear p
 by_cases p:m.pc=2
 .rw[gS p]at h;cases q:yD w m
  .rw[q]at h;cases h
   cases hx:w.zn with
   |nil=>have:=Pv w m sw ok hl p hs q hx;rwa [hx]at this
   |cons x l=>have:=QD w m x l sw ok hl p hs q hx;rwa [hx]at this
  .rw[q]at h;cases h
 rw[gP p]at h;cases h
def RM(su:jN w m v g e)(hs:zE w m=true)(t:fG N w)(tm:im m)(hN:N<=100000000)(h:Ag w m=some r):yo 140 w m r:=by
 have gw:=qq.1 su.world;have sw:=mH gw t hN;have ok:=wV gw t hN;have hl:=tm.listen;unfold Ag at h;by_cases p:m.pc=0
 .rw[gS p]at h;by_cases q:z7 w.zc m.op.listen<0
  .rw[gS q]at h;cases h
   exact Oc w m sw ok hl p hs q
  .rw[gP q]at h;obtain⟨x,hx,rfl⟩:=pN.1 h;exact NR w m x sw ok hl p hs an hx
 rw[gP p]at h;cases h
def Ss(su:jN w m v g e)(hs:zE w m=true)(t:fG N w)(tm:im m)(hN:N<=100000000)(hk:m.op.kind=6)(h:oI w m=some r):yo 142 w m r:=by
 have gw:=qq.1 su.world;have sw:=mH gw t hN;have ok:=wV gw t hN;unfold oI at h;split at h
 rotate_left
 .cases h
 rename_i p;obtain⟨rw_,h1,h2⟩:=rD.1 h;obtain⟨n,h3,rfl⟩:=pN.1 h2;exact Qy w m rw_ n sw ok tm.listen p.1 hs su.done ⟨su.i,h1,su.k,p.2,h3⟩ (tm.o7 hk su.done)
def Bg(gw:jX w){x:fg}(hx:w.zn[i]?=some x):0<=x.at_/\x.at_<=w.zr/\0<=x.version/\x.version<w.zd.length/\x.version≠w.current:=by
 have h1:=gw.bad x (gT hx);have h2:=gQ (show decide (∀i,(h:i<w.zn.length)->Go.Lim.fZ w.zn i w.zn[i]=true)=true from gw.zn) i (gN.1 hx).1;rw[(gN.1 hx).2]at h2;unfold yv at h1;unfold Go.Lim.fZ at h2;simp at h1 h2;omega
def Lf(h0:0<=m.i):th 190 [oW w,oM m] [.agg tg] (Ce (iY w m).2.2) [⟨1,38,8,[xk (iY w m).1],0⟩,⟨1,64,44,[lp (iY w m).2.1],0⟩]:=by
 unfold iY;cases hx:w.zc[m.i.toNat]? with
 |none=>exact Nf w m (by have:=rz.1 hx;omega)
 |some l=>exact Nn w m l h0 hx
def OW(su:jN w m v g e)(hs:zE w m=true)(t:fG N w)(tm:im m)(hN:N<=100000000)(h:xj w m=some r):yo 141 w m r:=by
 have gw:=qq.1 su.world;have sw:=mH gw t hN;have ok:=wV gw t hN;have hl:=tm.listen;have av:=su.at_.tolS;unfold xj at h;by_cases p:m.pc=0
 .rw[gS p]at h;by_cases q:w.lock=0
  .rw[gS q]at h;cases h
   (exact jA sw ok hl hs (xm w m an) 0 _ V (λ_ _ _ _ _ _ _ _ _ _=>by rw[p];rfl) V (NU w m q))
  .rw[gP q]at h;cases h
   (exact jA sw ok hl hs (xm w m an) 0 _ V (λ_ _ _ _ _ _ _ _ _ _=>by rw[p];rfl) V (OS w m q))
 rw[gP p]at h
 clear p
 by_cases p:m.pc=1
 .rw[gS p]at h;cases h
  (exact jA sw ok hl hs (xm w m an) 1 _ V (λ_ _ _ _ _ _ _ _ _ _=>by rw[p];rfl) V (Go.Wor.NB w m))
 rw[gP p]at h
 clear p
 by_cases p:m.pc=2
 .rw[gS p]at h;obtain⟨x,hx,rfl⟩:=pN.1 h;have eP:=(gN.1 hx).1;have si:=su.i;exact jA sw ok hl hs (Sv w m p an) 2 _ V (λ_ _ _ _ _ _ _ _ _ _=>by rw[p];rfl) V (NT w m x su.i hx)
 rw[gP p]at h
 clear p
 by_cases p:m.pc=3
 .rw[gS p]at h;by_cases q:w.zr=m.zr/\w.zr<1000000000000
  .rw[gS q]at h;cases h
   (exact jA sw ok hl hs (xm w m an) 3 _ V (λ_ _ _ _ _ _ _ _ _ _=>by rw[p];rfl) V (Nh w m q.1 q.2))
  .rw[gP q]at h;cases h
   (exact jA sw ok hl hs (xm w m an) 3 _ V (λ_ _ _ _ _ _ _ _ _ _=>by rw[p];rfl) V (Nt w m q))
 rw[gP p]at h
 clear p
 by_cases p:m.pc=4
 .rw[gS p]at h;cases hx:w.zn[m.i.toNat]? with
  |none=>
   rw[hx]at h;cases h
   (exact jA sw ok hl hs (xm w m an) 4 _ V (λ_ _ _ _ _ _ _ _ _ _=>by rw[p];rfl) V (Ng (by have:=rz.1 hx;have:=su.i;omega) (Lf (m:=fJ m 8 0) (sA _))))
  |some x=>
   rw[hx]at h;cases h
   have la:=Bg gw hx;have ge:=(jZ.1 gw.ground).zr
   (exact jA sw ok hl hs (xm w m an) 4 _ V (λ_ _ _ _ _ _ _ _ _ _=>by rw[p];rfl) V (NC w m x ⟨an,an⟩ su.i hx))
 rw[gP p]at h
 clear p
 by_cases p:m.pc=5
 .rw[gS p]at h;obtain⟨v',hv',h⟩:=rD.1 h;obtain⟨x,hx,rfl⟩:=pN.1 h;have eP:=(gN.1 hx).1;have sk:=su.k;exact jA sw ok hl hs (Sx w m v' (AG gw hv') p ⟨su.version.1,hv'⟩ an) 5 _ V (λ_ _ _ _ _ _ _ _ _ _=>by rw[p];rfl) V (Nm w m v' x (AG gw hv') ⟨su.version.1,hv'⟩ su.k hx)
 rw[gP p]at h
 clear p
 by_cases p:m.pc=6
 .rw[gS p]at h;obtain⟨v',hv',h⟩:=rD.1 h;obtain⟨x,hx,h⟩:=rD.1 h;split at h
  rotate_left
  .cases h
  rename_i q;cases h
  exact OY sw ok hl hs (Sy w m x p su.i hx q.1 q.2) 6 _ V (λ_ _ _ _ _ _ _ _ _ _=>by rw[p];rfl) V (by rintro h0;rw[h0]at hv';simp at hv') (by rintro h0;rw[h0]at hx;simp at hx) ah ah (Dq w m v' x ⟨su.version.1,hv'⟩ su.i hx)
 rw[gP p]at h
 clear p
 by_cases p:m.pc=8
 .rw[gS p]at h;cases h
  (exact jA sw ok hl hs (xm w m an) 7 _ V (λ_ _ _ _ _ _ _ _ _ _=>by rw[p];rfl) V (Lf su.i))
 rw[gP p]at h
 clear p
 by_cases p:m.pc=9
 .rw[gS p]at h;obtain⟨x,hx,rfl⟩:=pN.1 h;have eP:=(gN.1 hx).1;have si:=su.i;exact jA sw ok hl hs (Sz w m p an) 8 _ V (λ_ _ _ _ _ _ _ _ _ _=>by rw[p];rfl) V (Nq w m x su.i hx)
 rw[gP p]at h
 clear p
 by_cases p:m.pc=10
 .rw[gS p]at h;obtain⟨x,hx,h⟩:=rD.1 h;split at h
  rotate_left
  .cases h
  rename_i q;cases h
  exact OZ sw ok hl hs (P3 w m x p su.i hx q) 9 _ V (λ_ _ _ _ _ _ _ _ _ _=>by rw[p];rfl) V (by rintro h0;rw[h0]at hx;simp at hx) ah (Sp w m x su.i hx)
 rw[gP p]at h;cases h
end
end Go.Wor
namespace Go.Wor
open Go.Ab Go.Proofs Tryz Go.Gat Go.Nam Go.Hos Go.Con Go.Sna Go.Pla
open Go.Hy hiding encI
abbrev Lw(w:Wor)(m:eQ)(r:Wor×eQ×e7):Prop:=th 42 [] [Sw w,Sm m] (Sr r.1 r.2.1 r.2.2) []
def SN{N:Nat}{w:Wor}{m:eQ}{r:Wor×eQ×e7}(hs:zE w m=true)(t:fG N w)(tm:im m)(hN:N<=100000000)(h:nJ w m=some r):Lw w m r:=by
 obtain⟨v,g,e,su⟩:=vU hs;unfold nJ at h;rw[su.fR]at h;dsimp only at h;rw[su.fV]at h;dsimp only at h;rw[su.ig]at h;dsimp only at h;by_cases k:m.op.kind=1
 .rw[gS k]at h;exact IX k (PX su hs t tm hN h)
 rw[gP k]at h
 clear k
 by_cases k:m.op.kind=2
 .rw[gS k]at h;exact E7 k (Qi su hs t tm hN h)
 rw[gP k]at h
 clear k
 by_cases k:m.op.kind=3
 .rw[gS k]at h;exact E8 k (UK su hs t tm hN k h)
 rw[gP k]at h
 clear k
 by_cases k:m.op.kind=4
 .rw[gS k]at h;exact IY k (RM su hs t tm hN h)
 rw[gP k]at h
 clear k
 by_cases k:m.op.kind=5
 .rw[gS k]at h;exact E9 k (OW su hs t tm hN h)
 rw[gP k]at h
 clear k
 by_cases k:m.op.kind=6
 .rw[gS k]at h;exact Fa k (Ss su hs t tm hN k h)
 rw[gP k]at h;cases h
end Go.Wor
