import Derived.Test.YtllehbdigpdinaaGreatTY
import Derived.Test.YtllehbdigpdinaaGreatTG
import Derived.Test.YtllehbdigpdinaaGreatTH
import Derived.Test.YtllehbdigpdinaaGreatTZ
set_option linter.all false
set_option maxRecDepth 100000
set_option maxHeartbeats 4000000
namespace Go.Wor
open Go.Ab Go.Proofs Tryz Go.Hy Go.Gat Go.Nam Go.Hos Go.Con Go.Sna
variable{c:iq}{i N:Nat}{r:Wor×fD×fG}{l:List ij}{s:Sna}{e:En}{v:fI}{w:Wor}{m:fD}{g:Gr}
def WN(w:Wor)(m:fD)(v:fI)(g:Gr)(e:En)(sw:jg w)(ok:iw w)(hl:i64 m.listen)(hpc:m.pc=2)(hs:z8 w m=true)(hat:iB w m v g e)(hw:u64 m.word)(hh:u64 e.head)(hne:e.head≠m.word):
  tj 134 [] [Cw w,Cm m] (.fJ [Cw w,Cm {m with pc:=0},Ce (iP m v 5 8 (e.head%4294967296-1))]) []:=by
 have a0:=hat.v0;have a1:=hat.toAH.row;have b0:=hat.g0;have b1:(v.zq.map zK)[m.zg.toNat]?=some (zK g):=by rw[gy,hat.fY];rfl
 have c0:=hat.e0;have c1:(g.ends.map zE)[m.end_.toNat]?=some (zE e):=by rw[gy,hat.ib];rfl
 refine ab func134 ?_;refine zac ?_
 refine zbh ?_
 refine hZ ?_
 refine ah (qE w sw) ?_;refine uE ?_;(refine⟨a0,_,a1,dd ?_⟩)
 (refine⟨b0,_,b1,dd ?_⟩)
 (refine⟨c0,_,c1,dd ?_⟩)
 refine zam ?_
 refine zaK ?_
 refine zaU ?_
 refine zac ?_
 refine uE ?_;refine⟨λ_=>dd ?_,λh=>absurd h (aq hne)⟩;refine n9.go V (uH ?_);refine zba ?_
 exact uI
def VM(w:Wor)(m:fD)(v:fI)(g:Gr)(e:En)(hv:iB w m v g e)(he:u64 e.head)(hi:¬(0<=e.head%4294967296-1/\e.head%4294967296-1<e.next.length)):
  tj 202 [oW w,oM m] [.agg tf] (Ce (iP m v 1 8 (e.head%4294967296-1))) [oW w,oM (oX {m with word:=e.head} 4)]:=by
 have ml:(e.next.map Go.Hy.encI).length=e.next.length:=gC ..;refine aa func202 ?_;refine HW [0,1] (DR w m v g e hv) V V V V V V (dd ?_);refine ah (Slp.qT e.head he) ?_;refine⟨λq1=>?_,λq1=>?_⟩
 .refine zad ?_
  exact za0
 .refine dd ?_;refine HW [0,1] (DR w {m with word:=e.head} v g e ⟨⟨⟨hv.v0,hv.at_⟩,hv.g0,hv.fY⟩,hv.e0,hv.ib⟩) V V V V V V (dd ?_);rw[ml];refine⟨λq2=>?_,λq2=>?_⟩
  .refine zad ?_
   exact za0
  .exact absurd ⟨cf,by simp at q2;omega⟩ hi
abbrev AI:=Option (Wor×fD×fG)
def BM(w:Wor)(m:fD):AI:=
 if m.pc=0 then some (w,{m with zl:=w.zl,pc:=1},BK m (BU w.zl))
 else if m.pc=1 then some (nT w m.zf.toNat (IntKind.i64.wrap (m.zl+1)),{m with pc:=2},BK m ⟨0,0,2,2,0,false,IntKind.i64.wrap (m.zl+1),false,false,false,oq⟩)
 else if m.pc=2 then some (w,{m with zl:=w.zl,pc:=if w.zl=m.zl then 3 else 1},BK m (BU w.zl))
 else none
abbrev MA(x:fT):fT:={x with zj:=IntKind.i64.wrap (x.zj+1)}
abbrev zA(x:Int):Int:=x%4294967296-1
abbrev Es(m:fD):fN:=⟨1,m.version,m.zg,m.end_,m.slot,m.listen,0,⟨0,0,0,0,0,0⟩⟩
def vn(w:Wor)(m:fD)(k pc:Int):AI:=match w.counts[m.zf.toNat]? with
 |none=>none
 |some r0=>match r0[k.toNat]? with
  |none=>none
  |some x=>some ({w with counts:=w.counts.set m.zf.toNat (r0.set k.toNat (IntKind.u64.wrap (x+1)))},{m with pc:=pc},fX m 3 10 k)
def w9(w:Wor)(m:fD)(f:fT->Wor×fD×fG):AI:=if m.listen<0 then none else (w.zc[m.listen.toNat]?).map f
def qe(w:Wor)(m:fD)(v:fI)(g:Gr)(e:En):AI:=
 if m.pc<3 then BM w m
 else if m.pc=3 then some (w,if zT w.zc m.op.listen<0 then oX (DL w m) 2 else DL w m,Nu (fX m 1 3 w.current))
 else if m.pc=4 then w9 w m λx=>({w with zc:=w.zc.set m.listen.toNat (MA x)},{m with pc:=5},fX m 3 5 (IntKind.i64.wrap (x.zj+1)))
 else if m.pc=5 then w9 w m λl=>(w,if l.drain then oX m 5 else j8 m v,if l.drain then {fX m 1 4 1 with jd:=true} else fX m 1 4 0)
 else if m.pc=6 then (v.snap.zo[m.zg.toNat]?).map λc=>(va w m v g e (IntKind.u64.wrap (g.zx+1)) e.head e.zj,Ii m c g.zx,iP m v 3 6 (IntKind.i64.wrap g.zx))
 else if m.pc=7 then some (w,{m with i:=e.zj,pc:=8},iP m v 1 7 e.zj)
 else if m.pc=8 then (g.ends[m.other.toNat]?).map λe2=>(w,{m with end_:=if e2.zj<m.i then m.other else m.end_,pc:=9},iP m v 1 7 e2.zj)
 else if m.pc=9 then some (w,if 0<=zA e.head/\zA e.head<e.next.length then {m with word:=e.head,slot:=zA e.head,pc:=10} else oX {m with word:=e.head} 4,iP m v 1 8 (zA e.head))
 else if m.pc=10 then (e.next[m.slot.toNat]?).map λx=>(w,{m with link:=x,pc:=11},iP m v 1 9 x)
 else if m.pc=11 then (if e.head=m.word then some (va w m v g e g.zx (Slp.qY m.word m.link) e.zj,{m with pc:=12},iP m v 4 8 m.slot) else some (w,{m with pc:=9},iP m v 5 8 (zA e.head)))
 else if m.pc=12 then some (va w m v g e g.zx e.head (IntKind.i64.wrap (e.zj+1)),{m with answer:=Es m,pc:=20},iP m v 3 7 (IntKind.i64.wrap (e.zj+1)))
 else if m.pc=20 then vn w m (AX m.answer.kind) 21
 else if m.pc=21 then vn w m 0 (if m.answer.kind=1\/m.listen<0 then 23 else 22)
 else if m.pc=22 then w9 w m λx=>({w with zc:=w.zc.set m.listen.toNat (CT x)},{m with pc:=23},fX m 3 5 (IntKind.i64.wrap (x.zj-1)))
 else if m.pc=23 then some (nT w m.zf.toNat 0,{m with done:=true},{GB m with done:=true,answer:=m.answer})
 else none
def jW(w:Wor)(m:fD)(v:fI)(g:Gr)(e:En):AI:=
 if m.pc=0 then some (w,{m with word:=e.head,pc:=1},iP m v 1 8 (zA e.head))
 else if m.pc=1 then some (va w m v g (vx m e) g.zx e.head e.zj,{m with pc:=2},iP m v 2 9 (zA m.word))
 else if m.pc=2 then (if e.head=m.word then some (va w m v g e g.zx (Slp.qY m.word m.slot) e.zj,{m with pc:=3},{iP m v 4 8 m.slot with jd:=true}) else some (w,{m with pc:=0},iP m v 5 8 (zA e.head)))
 else if m.pc=3 then some (va w m v g e g.zx e.head (IntKind.i64.wrap (e.zj-1)),{m with pc:=4},iP m v 3 7 (IntKind.i64.wrap (e.zj-1)))
 else if m.pc=4 then w9 w m λx=>({w with zc:=w.zc.set m.listen.toNat (CT x)},{m with answer:=MF m,done:=true},To m x)
 else if m.pc=9 then some (w,{m with answer:=mT 7,done:=true},Tw m)
 else none
def yg(w:Wor)(m:fD):AI:=
 if m.pc=0 then (if oT m.op.config=0 then some ({w with current:=w.ze.length,ze:=w.ze++[vm m.op.config]},nI m w.current w.ze.length,{fX m 6 3 w.ze.length with jd:=true})
  else some (w,{m with done:=true,answer:=i4 (oT m.op.config)},{fX m 1 3 w.current with jd:=true,done:=true,answer:=i4 (oT m.op.config)}))
 else if m.pc=1 then some (w,{m with zl:=w.zl,pc:=2},fX m 1 1 w.zl)
 else if m.pc=2 then (if nJ w m then none else some ({w with zm:=w.zm++[⟨m.version,m.zl,false⟩]},{m with done:=true,answer:=C1 m},{fX m 2 11 m.version with done:=true,answer:=C1 m}))
 else none
abbrev NP(p:Int):fN:=⟨10,0,0,0,0,p,0,⟨0,0,0,0,0,0⟩⟩
def yM(w:Wor)(m:fD):AI:=
 if m.pc=0 then (if zT w.zc m.op.listen<0 then some (w,{m with done:=true,answer:=mT 7},{Ji m with done:=true,answer:=mT 7})
  else (w.zc[(zT w.zc m.op.listen).toNat]?).map λx=>({w with zc:=w.zc.set (zT w.zc m.op.listen).toNat (Go.Gat.Br x)},{m with listen:=zT w.zc m.op.listen,done:=true,answer:=NP (zT w.zc m.op.listen)},{MY m with done:=true,answer:=NP (zT w.zc m.op.listen)}))
 else none
def i6(w:Wor)(m:fD):Wor×fD×fG:=match w.zc[m.i.toNat]? with
 |none=>({w with lock:=0},{m with done:=true,answer:=Gu 11 m.answer.n},{fX m 2 14 0 with done:=true,answer:=Gu 11 m.answer.n})
 |some l=>(w,Ak m l,IU m l)
def qZ(w:Wor)(m:fD):AI:=
 if m.pc=0 then some (if w.lock=0 then ({w with lock:=1},{m with pc:=1},fX m 4 14 1) else (w,{m with done:=true,answer:=mT 12},{fX m 5 14 1 with done:=true,answer:=mT 12}))
 else if m.pc=1 then some (w,{m with zl:=w.zl,pc:=2,i:=0},fX m 1 1 w.zl)
 else if m.pc=2 then (w.pins[m.i.toNat]?).map λp=>(w,n7 w m p,fX m 1 2 p)
 else if m.pc=3 then some (if w.zl=m.zl/\w.zl<1000000000000 then ({w with zl:=IntKind.i64.wrap (w.zl+1)},{iV m 4 0 with zl:=IntKind.i64.wrap (w.zl+1)},fX m 4 1 (IntKind.i64.wrap (w.zl+1))) else (w,iV m 4 0,fX m 5 1 w.zl))
 else if m.pc=4 then some (match w.zm[m.i.toNat]? with|none=>i6 w (iV m 8 0)|some r=>(w,oO m r,fX m 1 11 r.version))
 else if m.pc=5 then (w.ze[m.version.toNat]?).bind λv=>((qv v)[m.k.toNat]?).map λe=>(w,nD m v e.zj,GK m v e.zj)
 else if m.pc=6 then (w.ze[m.version.toNat]?).bind λv=>(w.zm[m.i.toNat]?).bind λr=>if r.version=m.version/\r.gone=false then
  some ({w with ze:=w.ze.set m.version.toNat (x5 v),zm:=w.zm.set m.i.toNat (xG r)},Cr m,fX m 2 12 m.version) else none
 else if m.pc=8 then some (i6 w m)
 else if m.pc=9 then (w.zc[m.i.toNat]?).map λl=>(w,if l.zj=0 then {m with pc:=10} else iV m 8 (IntKind.i64.wrap (m.i+1)),fX m 1 5 l.zj)
 else if m.pc=10 then (w.zc[m.i.toNat]?).bind λl=>if l.drain then some ({w with zc:=w.zc.set m.i.toNat (As l)},iV m 8 (IntKind.i64.wrap (m.i+1)),fX m 2 13 1) else none
 else none
def yf(w:Wor)(m:fD):AI:=
 if m.pc=0/\m.k<6 then (w.counts[m.i.toNat]?).bind λr=>(r[m.k.toNat]?).map λn=>(w,jo w m n,EP w m n) else none
def vj(w:Wor)(m:fD):AI:=match w.ze[m.version.toNat]? with
 |none=>none
 |some v=>match v.zq[m.zg.toNat]? with
  |none=>none
  |some g=>match g.ends[m.end_.toNat]? with
   |none=>none
   |some e=>if m.op.kind=1 then qe w m v g e else if m.op.kind=2 then jW w m v g e else if m.op.kind=3 then yg w m else if m.op.kind=4 then yM w m
    else if m.op.kind=5 then qZ w m else if m.op.kind=6 then yf w m else none
structure mB(N:Nat)(w:Wor):Prop where
 vg:w.ze.length<=N
 fP:w.zc.length<=N
 lim:w.zm.length<=N
 mr:∀v∈w.ze,AT v.snap/\∀g∈v.zq,u64 g.zx/\∀e∈g.ends,e.ok
 nF:∀l∈w.zc,l.ok
structure iy(m:fD):Prop where
 listen:i64 m.listen
 word:u64 m.word
 link: -1<=m.link/\m.link<=2147483646
 host:m.op.host.length<1000000000000000
 path:m.op.path.length<1000000000000000
 d0:i64 m.op.d0
 d1:i64 m.op.d1
 cfg:m.op.kind=3->yn m.op.config
 nA:m.op.kind=6->m.done=false->m.answer=oq
def OA(h:(jj c).1=0):(vV c).1=0/\(xr (Cl c.zc) c.zc.length).1=0/\(xr (Ad c.zo) c.zo.length).1=0/\(xr (Bj c) c.zO.length).1=0:=by
 unfold jj at h;split at h
 .contradiction
 rename_i h1;split at h
 .contradiction
 rename_i h2;split at h
 .contradiction
 rename_i h3;split at h
 .contradiction
 rename_i h4;exact⟨aq h1,Decidable.of_not_not h2,Decidable.of_not_not h3,Decidable.of_not_not h4⟩
def P1{r:oL}(hr:c.zO[i]?=some r)(h:Bj c i=0):c.zc.any (λx=>x == r.listen)=true/\BL r.host=true/\BD r.path=true/\B3 c.zo r.zg=true:=by
 unfold Bj at h;rw[hr]at h;dsimp only at h;split at h
 .cases h
 rename_i h1;split at h
 .cases h
 rename_i h2;split at h
 .cases h
 rename_i h3;split at h
 .cases h
 rename_i h4;exact⟨aq h1,aq h2,aq h3,aq h4⟩
def zsK{c:ij}(hc:l[i]?=some c)(h:Ad l i=0):yk c.name=true:=by
 unfold Ad at h;rw[hc]at h;dsimp only at h;split at h
 .cases h
 rename_i h1;simpa using h1
def ztx:yk []=false:=by decide
def zuj(h:kO s=true){r:mX}(hr:r∈s.rules):0<=r.zg/\r.zg<s.zo.length:=by
 have h:(jj (mU s)).1=0:=by unfold kO at h;simpa using h
 obtain⟨_,_,h3,h4⟩:=OA h;obtain⟨i,hi⟩:=gI.1 hr;have hi':(mU s).zO[i]?=some (BN s r):=by unfold mU;simp only[gy,hi,gK]
 have hz:=Ip h4 i (gh.1 hi').1;obtain⟨_,_,_,hn⟩:=P1 hi' hz;have hn:s.zo.any (λc=>c.name == kM s.zo r.zg)=true:=hn;by_cases hb:0<=r.zg/\r.zg<s.zo.length
 .exact hb
 .unfold kM at hn;rw[gp hb]at hn;obtain⟨c,hc,he⟩:=rh.1 hn;obtain⟨j,hj⟩:=gI.1 hc;have:=zsK hj (Ip h3 j (gh.1 hj).1);rw[show c.name=[] from aq he,ztx]at this;cases this
def KV(h:kO s=true)(n hh p:fK):0<=(B1 s n hh p).1/\∃c,s.zo[(B1 s n hh p).1.toNat]?=some c:=by
 have g:=(jP h).zo.1;have zero:∃c,s.zo[(0:Int).toNat]?=some c:=⟨s.zo[0]'aw,gk aw⟩;unfold B1;split
 .exact⟨gO _,zero⟩
 .split
  .exact⟨gO _,zero⟩
  .split
   .rename_i r hr;have:=zuj h (gu hr);exact⟨this.1,s.zo[r.zg.toNat]'aw,gk aw⟩
   .exact⟨gO _,zero⟩
structure Tj(x:ij)(e:En):Prop where
 is:Slp.fV e=true
 len:(e.next.length:Int)=x.ye
structure oV(v:fI):Prop where
 snap:kO v.snap=true
 len:v.zq.length=v.snap.zo.length
 BS:∀(i:Nat) g x,v.zq[i]?=some g->v.snap.zo[i]?=some x->g.ends.length=x.zS.length/\∀e∈g.ends,Tj x e
def Ow{x:ij}:BZ x e=false↔Tj x e:=by
 unfold BZ;constructor
 .intro h;simp at h;exact⟨h.1,h.2⟩
 .rintro⟨h1,h2⟩;simp[h1,h2]
def Rs:o6 v=true↔oV v:=by
 unfold o6;simp only[gH,gR,gE,rG];constructor
 .rintro⟨⟨h1,h2⟩,h3⟩;refine⟨h1,h2,λi g x hg hx=>?_⟩;have:=h3 i (gh.1 hg).1;unfold CS at this;rw[hg,hx]at this;simp only[gH,gR,pK,pq]at this;exact⟨this.1,λe he=>Ow.1 (by simpa using this.2 e he)⟩
 .rintro⟨h1,h2,h3⟩;refine⟨⟨h1,h2⟩,λi hi=>?_⟩;unfold CS;split
  .rename_i g x hg hx;obtain⟨h4,h5⟩:=h3 i g x hg hx;simp only[gH,gR,pK,pq];exact⟨h4,λe he=>by simp[Ow.2 (h5 e he)]⟩
  .rfl
structure qQ(w:Wor):Prop where
 ground:xd w=true
 current:0<=w.current/\w.current<w.ze.length
 zm:Go.Lim.fV w.zm=true
 bad:∀r∈w.zm,yO w r=false
 fW:∀(i:Nat) v,w.ze[i]?=some v->oV v/\v.qX=yS w.zm i
 fP:∀(i:Nat) l,w.zc[i]?=some l->Go.Gat.fV l=true/\zT w.zc l.name=i
def qf:xa w=true↔qQ w:=by
 unfold xa;simp only[gH,gR,gE,rG,pK,pq];constructor
 .rintro⟨⟨⟨⟨⟨h1,h2⟩,h3⟩,h4⟩,h5⟩,h6⟩;refine⟨h1,h2,h3,λr hr=>by simpa using h4 r hr,λi v hv=>?_,λi l hl=>?_⟩
  .have:=h5 i (gh.1 hv).1;unfold Ba at this;rw[hv]at this;simp only[gH,pT]at this;exact⟨Rs.1 this.1,this.2⟩
  .have:=h6 i (gh.1 hl).1;unfold og at this;rw[hl]at this;simpa using this
 .rintro⟨h1,h2,h3,h4,h5,h6⟩;refine⟨⟨⟨⟨⟨h1,h2⟩,h3⟩,λr hr=>by simp[h4 r hr]⟩,λi hi=>?_⟩,λi hi=>?_⟩
  .unfold Ba;split
   .rename_i v hv;obtain⟨a,b⟩:=h5 i v hv;simp[Rs.2 a,b]
   .rfl
  .unfold og;split
   .rename_i l hl;obtain⟨a,b⟩:=h6 i l hl;simp[a,b]
   .rfl
def oV.mG(h:oV v):v.zq.length<=4/\∀g∈v.zq,g.ends.length<=4/\1<=g.ends.length/\∀e∈g.ends,Slp.fV e=true/\e.next.length<=4/\1<=e.next.length:=by
 have gn:=jP h.snap;refine⟨by have:=gn.zo.2;have:=h.len;omega,λg hg=>?_⟩;obtain⟨i,hi⟩:=gI.1 hg;have fE:=(gh.1 hi).1;obtain⟨x,hx⟩:∃x,v.snap.zo[i]?=some x:=⟨_,gk (by have:=h.len;omega)⟩;obtain⟨h1,h2⟩:=h.BS i g x hi hx;have gx:=gn.all x (gu hx);refine⟨by have:=gx.zS.2;omega,by have:=gx.zS.1;omega,λe he=>?_⟩;have ge:=h2 e he;have gs:=gx.ye;exact⟨ge.is,by have:=ge.len;omega,by have:=ge.len;omega⟩
structure TG(w:Wor):Prop where
 pins:1<=w.pins.length/\w.pins.length<=8
 counts:w.counts.length=w.pins.length/\∀r∈w.counts,r.length=6
 zl:0<=w.zl/\w.zl<=1000000000000
 lock:w.lock=0\/w.lock=1
 mP:∀p∈w.pins,0<=p/\p<=w.zl+1
def zU:xd w=true↔TG w:=by
 unfold xd Di;simp only[gH,rD,gR,gE,pK,pq,pT];constructor
 .rintro⟨⟨⟨⟨⟨⟨⟨h1,h2⟩,h3⟩,⟨h4,h5⟩,h6⟩,h7⟩,h8⟩,h9⟩,h10⟩;exact⟨⟨h1,h2⟩,⟨h3,h4⟩,⟨h7,h8⟩,h9,λp hp=>by have:=h10 p hp;simp[Bu]at this;omega⟩
 .rintro⟨⟨h1,h2⟩,⟨h3,h4⟩,⟨h7,h8⟩,h9,h10⟩;exact⟨⟨⟨⟨⟨⟨⟨h1,h2⟩,h3⟩,⟨h4,aw⟩,aw⟩,h7⟩,h8⟩,h9⟩,λp hp=>by have:=h10 p hp;simp[Bu];omega⟩
def Du(h:qQ w)(t:mB N w)(hN:N<=100000000):jg w:=by
 have g:=zU.1 h.ground;refine⟨by have:=g.pins;omega,⟨by have:=t.vg;omega,λv hv=>?_⟩,by have:=t.fP;omega,⟨by have:=g.counts.1;have:=g.pins;omega,λr hr=>by have:=g.counts.2 r hr;omega⟩,by have:=t.lim;omega⟩;obtain⟨i,hi⟩:=gI.1 hv;have f:=(h.fW i v hi).1.mG;exact⟨aw,λg hg=>⟨by have:=(f.2 g hg).1;omega,λe he=>by have:=((f.2 g hg).2.2 e he).2;omega⟩⟩
def Aq(h:qQ w)(t:mB N w)(hN:N<=100000000):iw w:=by
 have g:=zU.1 h.ground;refine⟨by have:=g.pins;omega,⟨by have:=t.vg;omega,λv hv=>?_⟩,⟨by have:=t.fP;omega,t.nF⟩,⟨by have:=g.counts.1;have:=g.pins;omega,λr hr=>by have:=g.counts.2 r hr;omega⟩,by have:=t.lim;omega⟩;obtain⟨i,hi⟩:=gI.1 hv;have f:=(h.fW i v hi).1.mG;have o:=t.mr v hv;exact⟨o.1,aw,λg hg=>⟨by have:=(f.2 g hg).1;omega,(o.2 g hg).2⟩⟩
def SK(h:qQ w)(hv:w.ze[i]?=some v):EW v:=by
 have f:=(h.fW i v hv).1.mG;exact⟨aw,λg hg=>by have:=(f.2 g hg).1;omega⟩
def zz9(h:qQ w)(t:mB N w)(tm:iy m)(hv:w.ze[i]?=some v):Jd m v:=by
 have g:=(h.fW i v hv).1;have o:=(t.mr v (gu hv)).1;refine⟨⟨o.zc.1,o.rules.1,λr hr=>o.rules.2 r hr⟩,tm.host,tm.path,tm.d0,tm.d1,λ_=>?_⟩;obtain⟨h0,c,hc⟩:=KV g.snap m.op.listen m.op.host m.op.path;exact⟨h0,c,hc,by have:=((jP g.snap).all c (gu hc)).zS.2;omega⟩
def zu4(h:qQ w){t:Int}(h0:0<=t)(h1:t<w.pins.length):∃r,w.counts[t.toNat]?=some r/\r.length=6:=by
 have g:=zU.1 h.ground;have fE:t.toNat<w.counts.length:=by have:=g.counts.1;omega
 exact⟨_,gk fE,g.counts.2 _ (pt fE)⟩
theorem xV{α:Type}(l:List α)(i:Nat){x:α}(h:l[i]?=some x):l.set i x=l:=by
 obtain⟨h1,rfl⟩:=gh.1 h;exact eu h1
def ZO(hat:iB w m v g e):va w m v g e g.zx e.head e.zj=w:=by
 unfold va vN BF qK;rw[xV g.ends _ hat.ib,xV v.zq _ hat.fY,xV w.ze _ hat.at_]
abbrev Dp(f:FuncId)(w:Wor)(m:fD)(r:Wor×fD×fG):Prop:=tj f [] [Cw w,Cm m] (.fJ [Cw r.1,Cm r.2.1,Ce r.2.2]) []
def Hw{f:fT->Wor×fD×fG}(h:w9 w m f=some r):0<=m.listen/\∃x,w.zc[m.listen.toNat]?=some x/\r=f x:=by
 unfold w9 at h;split at h
 .cases h
 obtain⟨x,hx,rfl⟩:=gT.1 h;exact⟨aw,x,hx,rfl⟩
def OB{k pc:Int}(h:vn w m k pc=some r):∃r0 x,w.counts[m.zf.toNat]?=some r0/\r0[k.toNat]?=some x/\
  r=({w with counts:=w.counts.set m.zf.toNat (r0.set k.toNat (IntKind.u64.wrap (x+1)))},{m with pc:=pc},fX m 3 10 k):=by
 unfold vn at h;split at h
 .cases h
 split at h
 .cases h
 rename_i r0 h1 _ x h2;exact⟨r0,x,h1,h2,(gA h).symm⟩
def qt.at_(su:qt w m v g e):iB w m v g e:=⟨⟨⟨su.version.1,su.fZ⟩,su.zg.1,su.fY⟩,su.end_.1,su.ib⟩
def Zs(n:Int):0<=AX n/\AX n<=5:=by
 unfold AX;split <;> omega
section
variable {N:Nat} {w:Wor} {m:fD} {v:fI} {g:Gr} {e:En} {r:Wor×fD×fG}
def zz0(su:qt w m v g e)(hs:z8 w m=true)(t:mB N w)(tm:iy m)(hN:N<=100000000)(h3:m.pc<3)(h:BM w m=some r):Dp 133 w m r:=by
 have gw:=qf.1 su.world;have sw:=Du gw t hN;have ok:=Aq gw t hN;unfold BM at h;split at h
 .rename_i hpc;cases h
  exact Ke aw h3 (Za w m sw ok tm.listen hpc hs)
 split at h
 .rename_i hpc;cases h
  exact Ke aw h3 (Zb w m sw ok tm.listen hpc hs)
 split at h
 .rename_i hpc;cases h
  exact Ke aw h3 (Zc w m sw ok tm.listen hpc hs)
 .cases h
def Xo(su:qt w m v g e)(hs:z8 w m=true)(t:mB N w)(tm:iy m)(hN:N<=100000000)(h:qe w m v g e=some r):Dp 133 w m r:=by
 have gw:=qf.1 su.world;have sw:=Du gw t hN;have ok:=Aq gw t hN;have hl:=tm.listen;have at_:=su.at_;have gv:=(gw.fW _ v su.fZ).1;have oe:=(t.mr v (gu su.fZ)).2 g (gu su.fY);have okE:=oe.2 e (gu su.ib)
 have hne:e.next≠[]:=by
  intro h0;have:=su.slot;rw[h0]at this;exact dc
 unfold qe at h;by_cases h3:m.pc<3
 .rw[gz h3]at h;exact zz0 su hs t tm hN h3 h
 rw[gp h3]at h;by_cases p:m.pc=3
 .rw[gz p]at h;cases h
  exact zvx sw ok hl p hs (VE w m (by have:=t.fP;omega))
 rw[gp p]at h
 clear p
 by_cases p:m.pc=4
 .rw[gz p]at h;obtain⟨l0,x,hx,rfl⟩:=Hw h;exact zvy sw ok hl p hs l0 aj (XG w m x l0 hx)
 rw[gp p]at h
 clear p
 by_cases p:m.pc=5
 .rw[gz p]at h;obtain⟨l0,x,hx,rfl⟩:=Hw h;exact zvz sw ok hl p hs l0 (VW w m v at_.toAH (zz9 gw t tm su.fZ) l0 hx)
 rw[gp p]at h
 clear p
 by_cases p:m.pc=6
 .rw[gz p]at h;obtain⟨c,hc,rfl⟩:=gT.1 h;exact zvA sw ok hl p hs at_ hne (W6 w m v g e c at_.ln hc oe.1 (by have:=((jP gv.snap).all c (gu hc)).zS.2;omega))
 rw[gp p]at h
 clear p
 by_cases p:m.pc=7
 .rw[gz p]at h;cases h
  exact zvB sw ok hl p hs (VD w m v g e at_)
 rw[gp p]at h
 clear p
 by_cases p:m.pc=8
 .rw[gz p]at h;obtain⟨e2,he2,rfl⟩:=gT.1 h;exact zvC sw ok hl p hs (VF w m v g e2 at_.toFe su.other.1 he2)
 rw[gp p]at h
 clear p
 by_cases p:m.pc=9
 .rw[gz p]at h;by_cases q:0<=zA e.head/\zA e.head<e.next.length
  .rw[gz q]at h;cases h
   exact Q0 sw ok hl p hs (VZ w m v g e at_ okE.1 q)
  .rw[gp q]at h;cases h
   exact Q0 sw ok hl p hs (VM w m v g e at_ okE.1 q)
 rw[gp p]at h
 clear p
 by_cases p:m.pc=10
 .rw[gz p]at h;obtain⟨x,hx,rfl⟩:=gT.1 h;exact Z3 sw ok hl p hs (V0 w m v g e at_ su.slot.1 hx)
 rw[gp p]at h
 clear p
 by_cases p:m.pc=11
 .rw[gz p]at h;by_cases q:e.head=m.word
  .rw[gz q]at h;cases h
   exact Qg sw ok hl p hs at_ hne (VP w m v g e at_.ln tm.word tm.link.1 tm.link.2 q)
  .rw[gp q]at h;cases h
   have:=Qg sw ok hl p hs at_ hne (VT w m v g e at_.ln tm.word tm.link.1 tm.link.2 okE.1 q)
   rwa [ZO at_]at this
 rw[gp p]at h
 clear p
 by_cases p:m.pc=12
 .rw[gz p]at h;cases h
  exact Z4 sw ok hl p hs at_ hne (WQ w m v g e at_.ln)
 rw[gp p]at h
 clear p
 by_cases p:m.pc=20
 .rw[gz p]at h;obtain⟨r0,x,hr,hx,rfl⟩:=OB h;exact Z5 sw ok hl p hs su.zf.1 hr (by rintro rfl;simp at hx) aj (VU w m r0 x _ rfl su.zf.1 hr hx)
 rw[gp p]at h
 clear p
 by_cases p:m.pc=21
 .rw[gz p]at h;obtain⟨r0,x,hr,hx,rfl⟩:=OB h;exact Z6 sw ok hl p hs su.zf.1 hr (by rintro rfl;simp at hx) aj (V2 w m r0 x su.zf.1 hr hx)
 rw[gp p]at h
 clear p
 by_cases p:m.pc=22
 .rw[gz p]at h;obtain⟨l0,x,hx,rfl⟩:=Hw h;exact Z7 sw ok hl p hs l0 aj (Xw w m x l0 hx)
 rw[gp p]at h
 clear p
 by_cases p:m.pc=23
 .rw[gz p]at h;cases h
  exact zta sw ok hl p hs (X3 w m sw ok hl hs)
 rw[gp p]at h;cases h
def XH(su:qt w m v g e)(hs:z8 w m=true)(t:mB N w)(tm:iy m)(hN:N<=100000000)(h:jW w m v g e=some r):Dp 134 w m r:=by
 have gw:=qf.1 su.world;have sw:=Du gw t hN;have ok:=Aq gw t hN;have hl:=tm.listen;have at_:=su.at_;have gv:=(gw.fW _ v su.fZ).1;have oe:=(t.mr v (gu su.fZ)).2 g (gu su.fY);have okE:=oe.2 e (gu su.ib);have ln:=((gv.mG.2 g (gu su.fY)).2.2 e (gu su.ib)).2
 have hne:e.next≠[]:=by
  intro h0;rw[h0]at ln;simp at ln
 have sl:=su.slot;unfold jW at h;by_cases p:m.pc=0
 .rw[gz p]at h;cases h
  exact Y0 w m v g e sw ok hl p hs at_ tm.word okE.1
 rw[gp p]at h
 clear p
 by_cases p:m.pc=1
 .rw[gz p]at h;cases h
  exact Yn w m v g e sw ok hl p hs at_ hne tm.word okE.1 sl.1 aw V V V
 rw[gp p]at h
 clear p
 by_cases p:m.pc=2
 .rw[gz p]at h;by_cases q:e.head=m.word
  .rw[gz q]at h;cases h
   exact Yo w m v g e sw ok hl p hs at_ hne tm.word okE.1 q aw aw V V V
  .rw[gp q]at h;cases h
   exact WN w m v g e sw ok hl p hs at_ tm.word okE.1 q
 rw[gp p]at h
 clear p
 by_cases p:m.pc=3
 .rw[gz p]at h;cases h
  exact Yp w m v g e sw ok hl p hs at_ hne tm.word okE.1 V V V
 rw[gp p]at h
 clear p
 by_cases p:m.pc=4
 .rw[gz p]at h;obtain⟨l0,x,hx,rfl⟩:=Hw h;exact Yq w m v g e x sw ok hl p hs at_ tm.word okE.1 l0 hx
 rw[gp p]at h
 clear p
 by_cases p:m.pc=9
 .rw[gz p]at h;cases h
  exact Yr w m v g e sw ok hl p hs at_ tm.word okE.1
 rw[gp p]at h;cases h
end
section
variable {N:Nat} {w:Wor} {m:fD} {v:fI} {g:Gr} {e:En} {r:Wor×fD×fG}
def zti{l:List fK}{s:fK}(h:l.any (λx=>x == s)=true):An l (vG l s)=s:=by
 unfold vG;cases hf:l.findIdx? (λx=>x == s) with
 |none=>
  rw[gV]at hf;obtain⟨x,hx,he⟩:=rh.1 h;rw[hf x hx]at he;cases he
 |some i=>
  obtain⟨h1,h2,_⟩:=gS.1 hf;show An l ((i:Nat):Int)=s;unfold An;rw[gz ⟨aw,aq h1⟩];simp only[rK,gk h1,Option.getD_some];simpa using h2
def zth{s:fK}(h:B3 l s=true):kM l (BG l s)=s:=by
 unfold B3 at h;unfold BG;cases hf:l.findIdx? (λx=>x.name == s) with
 |none=>
  rw[gV]at hf;obtain⟨x,hx,he⟩:=rh.1 h;rw[hf x hx]at he;cases he
 |some i=>
  obtain⟨h1,h2,_⟩:=gS.1 hf;show kM l ((i:Nat):Int)=s;unfold kM;rw[gz ⟨aw,aq h1⟩];simp only[rK,gk h1,gK,Option.getD_some];simpa using h2
def zsE(h:(jj c).1=0):mU (jN c).1=c:=by
 obtain⟨_,_,_,h4⟩:=OA h;unfold jN;rw[gp aw];obtain⟨ls,rs,cs⟩:=c;unfold mU;simp only[rC,iq.mk.injEq,true_and,and_true];refine pC λi=>?_
 rw[gy];cases hi:rs[i]? with
 |none=>rfl
 |some r=>
  obtain⟨a,_,_,b⟩:=P1 (c:=⟨ls,rs,cs⟩) hi (Ip h4 i (gh.1 hi).1);simp only[gK,Function.comp,gX];unfold BN B5;dsimp only;rw[zti a,zth b]
def Kn(h:(jj c).1=0):kO (jN c).1=true:=by
 unfold kO;rw[zsE h,h]
 rfl
def KH(c:iq):(jN c).2.1=(jj c).1:=by
 unfold jN;split
 .rfl
 .rename_i h;simpa using (Decidable.of_not_not h).symm
theorem wX(c:iq):oT c=(jj c).1:=by
 unfold oT;rw[KH];split
 .rfl
 .rename_i h;have h:(jj c).1=0:=Decidable.of_not_not h;unfold ja;rw[gz (Kn h),h]
def QI(su:qt w m v g e)(hs:z8 w m=true)(t:mB N w)(tm:iy m)(hN:N<=100000000)(hk:m.op.kind=3)(h:yg w m=some r):Dp 135 w m r:=by
 have gw:=qf.1 su.world;have sw:=Du gw t hN;have ok:=Aq gw t hN;have hl:=tm.listen;unfold yg at h;by_cases p:m.pc=0
 .rw[gz p]at h;by_cases q:oT m.op.config=0
  .rw[gz q]at h;cases h
   exact XV w m sw ok hl p hs (JR (tm.cfg hk) (by rw[<-wX];exact q)) q
  .rw[gp q]at h;cases h
   exact Wu w m _ sw ok hl p hs (tm.cfg hk) (by rw[KH,wX]) q
 rw[gp p]at h
 clear p
 by_cases p:m.pc=1
 .rw[gz p]at h;cases h
  exact XW w m sw ok hl p hs
 rw[gp p]at h
 clear p
 by_cases p:m.pc=2
 .rw[gz p]at h;cases q:nJ w m
  .rw[q]at h;cases h
   cases hx:w.zm with
   |nil=>have:=W2 w m sw ok hl p hs q hx;rwa [hx]at this
   |cons x l=>have:=XX w m x l sw ok hl p hs q hx;rwa [hx]at this
  .rw[q]at h;cases h
 rw[gp p]at h;cases h
def YU(su:qt w m v g e)(hs:z8 w m=true)(t:mB N w)(tm:iy m)(hN:N<=100000000)(h:yM w m=some r):Dp 136 w m r:=by
 have gw:=qf.1 su.world;have sw:=Du gw t hN;have ok:=Aq gw t hN;have hl:=tm.listen;unfold yM at h;by_cases p:m.pc=0
 .rw[gz p]at h;by_cases q:zT w.zc m.op.listen<0
  .rw[gz q]at h;cases h
   exact Wo w m sw ok hl p hs q
  .rw[gp q]at h;obtain⟨x,hx,rfl⟩:=gT.1 h;exact V3 w m x sw ok hl p hs aw hx
 rw[gp p]at h;cases h
def Y2(su:qt w m v g e)(hs:z8 w m=true)(t:mB N w)(tm:iy m)(hN:N<=100000000)(hk:m.op.kind=6)(h:yf w m=some r):Dp 138 w m r:=by
 have gw:=qf.1 su.world;have sw:=Du gw t hN;have ok:=Aq gw t hN;unfold yf at h;split at h
 rotate_left
 .cases h
 rename_i p;obtain⟨rw_,h1,h2⟩:=gQ.1 h;obtain⟨n,h3,rfl⟩:=gT.1 h2;exact Yg w m rw_ n sw ok tm.listen p.1 hs su.done ⟨su.i,h1,su.k,p.2,h3⟩ (tm.nA hk su.done)
def xR(gw:qQ w){x:fS}(hx:w.zm[i]?=some x):0<=x.at_/\x.at_<=w.zl/\0<=x.version/\x.version<w.ze.length/\x.version≠w.current:=by
 have h1:=gw.bad x (gu hx);have h2:=gL (show decide (∀i,(h:i<w.zm.length)->Go.Lim.iI w.zm i w.zm[i]=true)=true from gw.zm) i (gh.1 hx).1;rw[(gh.1 hx).2]at h2;unfold yO at h1;unfold Go.Lim.iI at h2;simp at h1 h2;omega
def R8(h0:0<=m.i):tj 180 [oW w,oM m] [.agg tf] (Ce (i6 w m).2.2) [⟨1,38,8,[yC (i6 w m).1],0⟩,⟨1,68,44,[mJ (i6 w m).2.1],0⟩]:=by
 unfold i6;cases hx:w.zc[m.i.toNat]? with
 |none=>exact Vz w m (by have:=pW.1 hx;omega)
 |some l=>exact VL w m l h0 hx
def Ov(su:qt w m v g e)(hs:z8 w m=true)(t:mB N w)(tm:iy m)(hN:N<=100000000)(h:qZ w m=some r):Dp 137 w m r:=by
 have gw:=qf.1 su.world;have sw:=Du gw t hN;have ok:=Aq gw t hN;have hl:=tm.listen;have av:=su.at_.toAH;unfold qZ at h;by_cases p:m.pc=0
 .rw[gz p]at h;by_cases q:w.lock=0
  .rw[gz q]at h;cases h
   (exact jV sw ok hl hs (xS w m aw) 0 _ V (λ_ _ _ _ _ _ _ _ _ _=>by rw[p];rfl) V (Wg w m q))
  .rw[gp q]at h;cases h
   (exact jV sw ok hl hs (xS w m aw) 0 _ V (λ_ _ _ _ _ _ _ _ _ _=>by rw[p];rfl) V (W9 w m q))
 rw[gp p]at h
 clear p
 by_cases p:m.pc=1
 .rw[gz p]at h;cases h
  (exact jV sw ok hl hs (xS w m aw) 1 _ V (λ_ _ _ _ _ _ _ _ _ _=>by rw[p];rfl) V (Go.Wor.VX w m))
 rw[gp p]at h
 clear p
 by_cases p:m.pc=2
 .rw[gz p]at h;obtain⟨x,hx,rfl⟩:=gT.1 h;have fE:=(gh.1 hx).1;have si:=su.i;exact jV sw ok hl hs (Zz w m p aw) 2 _ V (λ_ _ _ _ _ _ _ _ _ _=>by rw[p];rfl) V (Wf w m x su.i hx)
 rw[gp p]at h
 clear p
 by_cases p:m.pc=3
 .rw[gz p]at h;by_cases q:w.zl=m.zl/\w.zl<1000000000000
  .rw[gz q]at h;cases h
   (exact jV sw ok hl hs (xS w m aw) 3 _ V (λ_ _ _ _ _ _ _ _ _ _=>by rw[p];rfl) V (VG w m q.1 q.2))
  .rw[gp q]at h;cases h
   (exact jV sw ok hl hs (xS w m aw) 3 _ V (λ_ _ _ _ _ _ _ _ _ _=>by rw[p];rfl) V (VO w m q))
 rw[gp p]at h
 clear p
 by_cases p:m.pc=4
 .rw[gz p]at h;cases hx:w.zm[m.i.toNat]? with
  |none=>
   rw[hx]at h;cases h
   (exact jV sw ok hl hs (xS w m aw) 4 _ V (λ_ _ _ _ _ _ _ _ _ _=>by rw[p];rfl) V (VA (by have:=pW.1 hx;have:=su.i;omega) (R8 (m:=iV m 8 0) (gO _))))
  |some x=>
   rw[hx]at h;cases h
   have la:=xR gw hx;have ge:=(zU.1 gw.ground).zl
   (exact jV sw ok hl hs (xS w m aw) 4 _ V (λ_ _ _ _ _ _ _ _ _ _=>by rw[p];rfl) V (VY w m x ⟨aw,aw⟩ su.i hx))
 rw[gp p]at h
 clear p
 by_cases p:m.pc=5
 .rw[gz p]at h;obtain⟨v',hv',h⟩:=gQ.1 h;obtain⟨x,hx,rfl⟩:=gT.1 h;have fE:=(gh.1 hx).1;have sk:=su.k;exact jV sw ok hl hs (ZA w m v' (SK gw hv') p ⟨su.version.1,hv'⟩ aw) 5 _ V (λ_ _ _ _ _ _ _ _ _ _=>by rw[p];rfl) V (VK w m v' x (SK gw hv') ⟨su.version.1,hv'⟩ su.k hx)
 rw[gp p]at h
 clear p
 by_cases p:m.pc=6
 .rw[gz p]at h;obtain⟨v',hv',h⟩:=gQ.1 h;obtain⟨x,hx,h⟩:=gQ.1 h;split at h
  rotate_left
  .cases h
  rename_i q;cases h
  exact WJ sw ok hl hs (ZB w m x p su.i hx q.1 q.2) 6 _ V (λ_ _ _ _ _ _ _ _ _ _=>by rw[p];rfl) V (by rintro h0;rw[h0]at hv';simp at hv') (by rintro h0;rw[h0]at hx;simp at hx) aj aj (Kc w m v' x ⟨su.version.1,hv'⟩ su.i hx)
 rw[gp p]at h
 clear p
 by_cases p:m.pc=8
 .rw[gz p]at h;cases h
  (exact jV sw ok hl hs (xS w m aw) 7 _ V (λ_ _ _ _ _ _ _ _ _ _=>by rw[p];rfl) V (R8 su.i))
 rw[gp p]at h
 clear p
 by_cases p:m.pc=9
 .rw[gz p]at h;obtain⟨x,hx,rfl⟩:=gT.1 h;have fE:=(gh.1 hx).1;have si:=su.i;exact jV sw ok hl hs (ZC w m p aw) 8 _ V (λ_ _ _ _ _ _ _ _ _ _=>by rw[p];rfl) V (VN w m x su.i hx)
 rw[gp p]at h
 clear p
 by_cases p:m.pc=10
 .rw[gz p]at h;obtain⟨x,hx,h⟩:=gQ.1 h;split at h
  rotate_left
  .cases h
  rename_i q;cases h
  exact WL sw ok hl hs (Xi w m x p su.i hx q) 9 _ V (λ_ _ _ _ _ _ _ _ _ _=>by rw[p];rfl) V (by rintro h0;rw[h0]at hx;simp at hx) aj (Zq w m x su.i hx)
 rw[gp p]at h;cases h
end
end Go.Wor
namespace Go.Wor
open Go.Ab Go.Proofs Tryz Go.Gat Go.Nam Go.Hos Go.Con Go.Sna Go.Pla
open Go.Hy hiding encI
abbrev zxw(w:Wor)(m:fD)(r:Wor×fD×fG):Prop:=tj 49 [] [Sw w,Sm m] (Sr r.1 r.2.1 r.2.2) []
def Zd{N:Nat}{w:Wor}{m:fD}{r:Wor×fD×fG}(hs:z8 w m=true)(t:mB N w)(tm:iy m)(hN:N<=100000000)(h:vj w m=some r):zxw w m r:=by
 obtain⟨v,g,e,su⟩:=xN hs;unfold vj at h;rw[su.fZ]at h;dsimp only at h;rw[su.fY]at h;dsimp only at h;rw[su.ib]at h;dsimp only at h;by_cases k:m.op.kind=1
 .rw[gz k]at h;exact XQ k (Xo su hs t tm hN h)
 rw[gp k]at h
 clear k
 by_cases k:m.op.kind=2
 .rw[gz k]at h;exact XR k (XH su hs t tm hN h)
 rw[gp k]at h
 clear k
 by_cases k:m.op.kind=3
 .rw[gz k]at h;exact JZ k (QI su hs t tm hN k h)
 rw[gp k]at h
 clear k
 by_cases k:m.op.kind=4
 .rw[gz k]at h;exact XS k (YU su hs t tm hN h)
 rw[gp k]at h
 clear k
 by_cases k:m.op.kind=5
 .rw[gz k]at h;exact OL k (Ov su hs t tm hN h)
 rw[gp k]at h
 clear k
 by_cases k:m.op.kind=6
 .rw[gz k]at h;exact XT k (Y2 su hs t tm hN k h)
 rw[gp k]at h;cases h
end Go.Wor
