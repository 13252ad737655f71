import Derived.Test.YtllehbdigpdinaaGreatSV
set_option linter.all false
set_option maxRecDepth 100000
set_option maxHeartbeats 4000000
namespace Go.Wor
open Go.Ab Go.Proofs Tryz Go.Hy Go.Gat Go.Nam Go.Hos Go.Con Go.Sna
abbrev fx(m:eR)(a b c:Int):eV:=⟨m.zf,0,a,b, -1,false,c,false,false,false,mS⟩
abbrev ib(m:eR)(v:fc)(a b c:Int):eV:=⟨m.zf,0,a,b,m.version,v.qQ,c,false,false,false,mS⟩
def jt(m:eR)(a b c:Int):tn 236 [oM m] [.agg [.za,.ref 0 [] 44 0 0],I a,I b,I c] (Ce (fx m a b c)) [oM m]:=by
 refine aa func236 ?_;exact dM
abbrev lH(n:Int):ff:=⟨n,0,0,0,0,0,0,⟨0,0,0,0,0,0⟩⟩
abbrev ny(m:eR)(n:Int):eR:={m with answer:=lH n,pc:=20}
def vX(m:eR)(n:Int):tn 237 [oM m] [.agg [.za,.ref 0 [] 44 0 0],I n] (.fb []) [oM (ny m n)]:=by
 refine aa func237 ?_;refine .inl ⟨⟨false,[3],[1],[]⟩,au,uH ?_⟩;refine hZ ?_
 exact⟨.inr O,_,_,.refl _,rfl,cE 1⟩
structure oq(w:Wor)(m:eR)(v:fc):Prop where
 v0:0<=m.version
 at_:w.ze[m.version.toNat]?=some v
def oq.row{w:Wor}{m:eR}{v:fc}(h:oq w m v):(w.ze.map zN)[m.version.toNat]?=some (zN v):=by rw[gj,h.at_];rfl
def wF(w:Wor)(m:eR)(v:fc)(hv:oq w m v)(a b c:Int):tn 242 [oW w,oM m] [.agg tj,I a,I b,I c] (Ce (ib m v a b c)) [oW w,oM m]:=by
 have h0:=hv.v0;have hr:=hv.row;obtain⟨sn,gs,fr⟩:=v;cases fr
 all_goals
  refine aa func242 ?_;refine af [1] (jt m a b c) ?_;refine .inl ⟨⟨false,[6,9,11,14,17],[0,1,2],[]⟩,au,uH ?_⟩;(refine⟨h0,_,hr,dd ?_⟩)
  first|((refine ya (dd ?_)))|((refine yb (dd ?_)))
  refine hZ ?_
  exact cW
def FR{P:Program}{f:FuncId}(sel:List Nat){K H0 H':zl}{args args0:List C}{r:C}(h:zb P f H0 args0 r H')(hR:qP H'=true)
 (hH:xy sel K=H0)(ha:args.map (xU sel 9)=args0)(z8:sel.all (λid=>Nat.blt id K.length)=true)(fV:yc sel=true)(fP:qP K=true){k:C->zl->Prop}
 (hk:AI (wm sel K H') λX=>qL (yV (q9 sel K.length) 9 r) λc=>k c X):∃R',ql P f K args R'/\∀r H2,R' r H2->k r H2:=
 L5 sel (h.lM (R:=λx X=>x=r/\X=H') ⟨rfl,rfl⟩) (λ_ _ e=>e.2 ▸ hR) hH ha z8 fV fP (by rintro _ _ ⟨rfl,rfl⟩;exact hk)
structure Dq(w:Wor)(m:eR)(v:fc)(g:Gr):Prop extends oq w m v where
 g0:0<=m.zj
 fE:v.zq[m.zj.toNat]?=some g
def Dq.zy7{w:Wor}{m:eR}{v:fc}{g:Gr}(h:Dq w m v g):(v.zq.map zK)[m.zj.toNat]?=some (zK g):=by rw[gj,h.fE];rfl
structure fS(w:Wor)(m:eR)(v:fc)(g:Gr)(e:En):Prop extends Dq w m v g where
 e0:0<=m.end_
 fL:g.ends[m.end_.toNat]?=some e
def fS.zy6{w:Wor}{m:eR}{v:fc}{g:Gr}{e:En}(h:fS w m v g e):(g.ends.map zD)[m.end_.toNat]?=some (zD e):=by rw[gj,h.fL];rfl
def Ld(w:Wor)(m:eR)(v:fc)(g:Gr)(hv:Dq w m v g):tn 239 [oW w,oM m] [.agg tj] (.jP (zK g)) [oW w,oM m]:=by
 have h0:=hv.v0;have hr:=hv.row;have g0:=hv.g0;have gr:=hv.zy7;refine aa func239 ?_;refine uE ?_;(refine⟨h0,_,hr,dd ?_⟩)
 (refine⟨g0,_,gr,dd ?_⟩)
 exact cW
def wx(w:Wor)(m:eR)(v:fc)(g:Gr)(e:En)(hv:fS w m v g e):tn 243 [oW w,oM m] [.agg tj] (.jP (zD e)) [oW w,oM m]:=by
 have e0:=hv.e0;have er:=hv.zy6;refine aa func243 ?_;refine .inl ⟨⟨true,[],[],[1]⟩,au,uH ?_⟩;refine af [0,1] (Ld w m v g hv.toDq) ?_;refine hZ ?_
 (refine⟨e0,_,er,dd ?_⟩)
 exact cW
def kB(w:Wor)(m:eR)(v:fc)(c:fF)(hv:oq w m v)(c0:0<=m.zj)(hc:v.snap.zk[m.zj.toNat]?=some c):tn 241 [oW w,oM m] [.agg tj] (Cc c) [oW w,oM m]:=by
 have h0:=hv.v0;have hr:=hv.row;have cr:(v.snap.zk.map yE)[m.zj.toNat]?=some (yE c):=by rw[gj,hc];rfl
 refine aa func241 ?_;refine uE ?_;(refine⟨h0,_,hr,dd ?_⟩)
 (refine⟨c0,_,cr,dd ?_⟩)
 exact cW
def Rk(w:Wor)(m:eR)(v:fc)(g:Gr)(e:En)(hv:fS w m v g e){x:Int}(s0:0<=m.slot)(hx:e.next[m.slot.toNat]?=some x):
  tn 203 [oW w,oM m] [.agg tj] (Ce (ib m v 1 9 x)) [oW w,oM ({m with link:=x,pc:=11})]:=by
 have er:(e.next.map encI)[m.slot.toNat]?=some (encI x):=by rw[gj,hx];rfl
 refine aa func203 ?_;refine .inl ⟨⟨true,[3],[2],[5]⟩,au,uH ?_⟩;refine af [0,1] (wx w m v g e hv) ?_;refine hZ ?_
 (refine⟨s0,_,er,dd ?_⟩)
 refine hZ ?_
 refine .inl ⟨⟨true,[],[],[]⟩,au,uH ?_⟩;refine af [0,1] (wF w {m with link:=x,pc:=11} v ⟨hv.v0,hv.at_⟩ 1 9 x) ?_;exact cW
def QU(w:Wor)(m:eR)(v:fc)(g:Gr)(e:En)(hv:fS w m v g e):
  tn 200 [oW w,oM m] [.agg tj] (Ce (ib m v 1 7 e.zi)) [oW w,oM ({m with i:=e.zi,pc:=8})]:=by
 refine aa func200 ?_;refine .inl ⟨⟨true,[3],[2],[5]⟩,au,uH ?_⟩;refine af [0,1] (wx w m v g e hv) ?_;refine hZ ?_
 refine hZ ?_
 refine .inl ⟨⟨true,[],[],[]⟩,au,uH ?_⟩;refine af [0,1] (wF w {m with i:=e.zi,pc:=8} v ⟨hv.v0,hv.at_⟩ 1 7 e.zi) ?_;exact cW
def Rj(w:Wor)(m:eR)(v:fc)(g:Gr)(e:En)(hv:fS w m v g e)(he:u64 e.head)(hi:0<=e.head%4294967296-1/\e.head%4294967296-1<e.next.length):
  tn 202 [oW w,oM m] [.agg tj] (Ce (ib m v 1 8 (e.head%4294967296-1))) [oW w,oM ({m with word:=e.head,slot:=e.head%4294967296-1,pc:=10})]:=by
 have hi1:=hi.1;have hi2:=hi.2;have ml:(e.next.map encI).length=e.next.length:=gp ..;refine aa func202 ?_;refine FR [0,1] (wx w m v g e hv) O O O O O O (dd ?_);refine ah (Slp.qI e.head he) ?_;refine⟨λh=>absurd h aA,λ_=>dd ?_⟩;refine FR [0,1] (wx w {m with word:=e.head} v g e ⟨⟨⟨hv.v0,hv.at_⟩,hv.g0,hv.fE⟩,hv.e0,hv.fL⟩) O O O O O O (dd ?_);rw[ml];refine⟨λh=>absurd h aA,λ_=>dd ?_⟩;refine af [0,1] (wF w {m with word:=e.head,slot:=e.head%4294967296-1,pc:=10} v ⟨hv.v0,hv.at_⟩ 1 8 (e.head%4294967296-1)) ?_;exact cW
def Sx(w:Wor)(m:eR)(x:fq)(h0:0<=m.listen)(hx:w.zd[m.listen.toNat]?=some x):
  tn 197 [⟨1,38,8,[[I w.zo,I w.current,I w.lock,lI w.pins,lV w.ze,.sl 2 [] 4 0 w.zd.length false,fK w.counts,lR w.zr]],0⟩,oM m,⟨2,144,4,(w.zd).map qN,0⟩] [.agg tj] (Ce (fx m 3 5 (IntKind.i64.wrap (x.zi+1))))
   [⟨1,38,8,[[I w.zo,I w.current,I w.lock,lI w.pins,lV w.ze,.sl 2 [] 4 0 w.zd.length false,fK w.counts,lR w.zr]],0⟩,oM ({m with pc:=5}),⟨2,144,4,(w.zd.set m.listen.toNat {x with zi:=IntKind.i64.wrap (x.zi+1)}).map qN,0⟩]:=by
 have e1:0+m.listen.toNat=m.listen.toNat:=gI _;have eU:m.listen.toNat<w.zd.length:=(dY.1 hx).1;have gx:(w.zd.map qN)[m.listen.toNat]?=some (qN x):=by rw[gj,hx];rfl
 refine aa func197 ?_;have hst:(w.zd.map qN).set m.listen.toNat [Tx x.name,Bo x.drain,I (IntKind.i64.wrap (x.zi+1)),Bo x.closed]=(w.zd.set m.listen.toNat {x with zi:=IntKind.i64.wrap (x.zi+1)}).map qN:=bT
 have gx2:((w.zd.set m.listen.toNat {x with zi:=IntKind.i64.wrap (x.zi+1)}).map qN)[m.listen.toNat]?=some (qN {x with zi:=IntKind.i64.wrap (x.zi+1)}):=by rw[gj,gu eU];rfl
 refine uE ?_;refine⟨h0,eU,dd ?_⟩;rw[e1];refine⟨_,gx,cP,dd ?_⟩;refine⟨_,gx,rfl,dd ?_⟩;rw[hst];refine .inl ⟨⟨true,[],[],[]⟩,au,uH ?_⟩;refine⟨_,gx2,cP,dd ?_⟩;refine af [1] (jt {m with pc:=5} 3 5 (IntKind.i64.wrap (x.zi+1))) ?_;exact⟨.inl O,_,_,.refl _,rfl,cE 3⟩
def Th(w:Wor)(m:eR)(x:fq)(h0:0<=m.listen)(hx:w.zd[m.listen.toNat]?=some x):
  tn 208 [⟨1,38,8,[[I w.zo,I w.current,I w.lock,lI w.pins,lV w.ze,.sl 2 [] 4 0 w.zd.length false,fK w.counts,lR w.zr]],0⟩,oM m,⟨2,144,4,(w.zd).map qN,0⟩] [.agg tj] (Ce (fx m 3 5 (IntKind.i64.wrap (x.zi-1))))
   [⟨1,38,8,[[I w.zo,I w.current,I w.lock,lI w.pins,lV w.ze,.sl 2 [] 4 0 w.zd.length false,fK w.counts,lR w.zr]],0⟩,oM ({m with pc:=23}),⟨2,144,4,(w.zd.set m.listen.toNat {x with zi:=IntKind.i64.wrap (x.zi-1)}).map qN,0⟩]:=by
 have e1:0+m.listen.toNat=m.listen.toNat:=gI _;have eU:m.listen.toNat<w.zd.length:=(dY.1 hx).1;have gx:(w.zd.map qN)[m.listen.toNat]?=some (qN x):=by rw[gj,hx];rfl
 refine aa func208 ?_;have hst:(w.zd.map qN).set m.listen.toNat [Tx x.name,Bo x.drain,I (IntKind.i64.wrap (x.zi-1)),Bo x.closed]=(w.zd.set m.listen.toNat {x with zi:=IntKind.i64.wrap (x.zi-1)}).map qN:=bT
 have gx2:((w.zd.set m.listen.toNat {x with zi:=IntKind.i64.wrap (x.zi-1)}).map qN)[m.listen.toNat]?=some (qN {x with zi:=IntKind.i64.wrap (x.zi-1)}):=by rw[gj,gu eU];rfl
 refine uE ?_;refine⟨h0,eU,dd ?_⟩;rw[e1];refine⟨_,gx,cP,dd ?_⟩;refine⟨_,gx,rfl,dd ?_⟩;rw[hst];refine .inl ⟨⟨true,[],[],[]⟩,au,uH ?_⟩;refine⟨_,gx2,cP,dd ?_⟩;refine af [1] (jt {m with pc:=23} 3 5 (IntKind.i64.wrap (x.zi-1))) ?_;exact⟨.inl O,_,_,.refl _,rfl,cE 3⟩
def zX{P:Program}{f:FuncId}(sel:List Nat)(Kx:zl){K H0 H':zl}{args args0:List C}{r rx:C}(h:zb P f H0 args0 r H')(hR:qP H'=true)
 (hH:xy sel K=H0)(ha:args.map (xU sel 9)=args0)(z8:sel.all (λid=>Nat.blt id K.length)=true)(fV:yc sel=true)(fP:qP K=true){k:C->zl->Prop}
 (hp:wm sel K H'=Kx)(hr:yV (q9 sel K.length) 9 r=rx)(hk:okB rx λc=>k c Kx):∃r H2,zb P f K args r H2/\okB r λc=>k c H2:=
 ⟨_,_,h.part sel hR hH ha z8 fV fP,by rw[hp,hr];exact hk⟩
def zH{n:Nat}{x:Ob}{H:zl}(h1:qM n [x]=true)(h2:qM n H=true):qM n (x::H)=true:=by
 unfold qM at *;simp only[sa,uj,tZ] at *;rw[h1,h2];rfl
def qh{n ty sz fz:Nat}{rows:List (List C)}(h:∀r∈rows,∀c∈r,jc n 9 c=true):qM n [⟨1,ty,sz,rows,fz⟩]=true:=by
 unfold qM;simp only[sa,uj,tZ];have:(rows.all λr=>r.all (jc n 9))=true:=gA.2 λr hr=>gA.2 λc hc=>h r hr c hc
 rw[this];simp
def Ro(w:Wor)(m:eR)(r0:List Int)(x:Int)(h0:0<=m.zf)(hr:w.counts[m.zf.toNat]?=some r0)(hx:r0[0]?=some x):
  tn 207 [⟨1,38,8,[[I w.zo,I w.current,I w.lock,lI w.pins,lV w.ze,lL w.zd,.sl 2 [] 1 0 w.counts.length false,lR w.zr]],0⟩,oM m,⟨1,0,1,(w.counts.map zP).set m.zf.toNat [C.sl 3 [] 1 0 r0.length false],0⟩,⟨2,63,1,(r0).map jS,0⟩] [.agg tj] (Ce (fx m 3 10 0))
   [⟨1,38,8,[[I w.zo,I w.current,I w.lock,lI w.pins,lV w.ze,lL w.zd,.sl 2 [] 1 0 w.counts.length false,lR w.zr]],0⟩,oM ({m with pc:=if m.answer.kind=1\/m.listen<0 then 23 else 22}),⟨1,0,1,(w.counts.map zP).set m.zf.toNat [C.sl 3 [] 1 0 r0.length false],0⟩,⟨2,63,1,(r0.set 0 (IntKind.u64.wrap (x+1))).map jS,0⟩]:=by
 have e1:0+m.zf.toNat=m.zf.toNat:=gI _;have eU:m.zf.toNat<w.counts.length:=(dY.1 hr).1;have gt:((w.counts.map zP).set m.zf.toNat [C.sl 3 [] 1 0 r0.length false])[m.zf.toNat]?=some [C.sl 3 [] 1 0 r0.length false]:=gu (aq eU);have gx:(r0.map jS)[0]?=some (jS x):=by rw[gj,hx];rfl
 have hl0:0<r0.length:=(dY.1 hx).1;have hst:(r0.map jS).set 0 [U (IntKind.u64.wrap (x+1))]=(r0.set 0 (IntKind.u64.wrap (x+1))).map jS:=bT
 have own:∀r∈(w.counts.map zP).set m.zf.toNat [C.sl 3 [] 1 0 r0.length false],∀c∈r,zB c=true:=zC (enc:=zP) (λ_=>O) O _ _;have low:∀r∈(w.counts.map zP).set m.zf.toNat [C.sl 3 [] 1 0 r0.length false],∀c∈r,jc 4 9 c=true:=zC (enc:=zP) (λ_=>O) O _ _;refine aa func207 ?_;refine uE ?_;refine⟨h0,eU,dd ?_⟩;rw[e1];refine⟨_,gt,tU,dd ?_⟩;refine⟨ar,hl0,dd ?_⟩;refine⟨_,gx,tU,dd ?_⟩;refine⟨ar,hl0,dd ?_⟩;refine⟨_,gx,rfl,dd ?_⟩;have hst2:(r0.map jS).set (0+Int.toNat 0) [U (IntKind.u64.wrap (x+1))]=(r0.set 0 (IntKind.u64.wrap (x+1))).map jS:=hst;rw[hst2];refine⟨λh1=>?_,λh1=>?_⟩
 ·rw[gk (.inl (gH h1))];refine dd ?_;refine tc ?_
  refine zX [1] [⟨1,38,8,[[I w.zo,I w.current,I w.lock,lI w.pins,lV w.ze,lL w.zd,.sl 2 [] 1 0 w.counts.length false,lR w.zr]],0⟩,oM ({m with pc:=23}),⟨1,0,1,(w.counts.map zP).set m.zf.toNat [C.sl 3 [] 1 0 r0.length false],0⟩,⟨2,63,1,(r0.set 0 (IntKind.u64.wrap (x+1))).map jS,0⟩,⟨1,260,2,[tj],0⟩,oE qz] (rx:=Ce (fx {m with pc:=23} 3 10 0)) (jt {m with pc:=23} 3 10 0) O O O O O (zc O (zc O (zc (zg own) O))) O O (dd ?_);exact c9
 ·refine dd ?_;refine⟨λh2=>?_,λh2=>?_⟩
  ·rw[gk (.inr (gH h2))];refine dd ?_;refine tc ?_
   refine zX [1] [⟨1,38,8,[[I w.zo,I w.current,I w.lock,lI w.pins,lV w.ze,lL w.zd,.sl 2 [] 1 0 w.counts.length false,lR w.zr]],0⟩,oM ({m with pc:=23}),⟨1,0,1,(w.counts.map zP).set m.zf.toNat [C.sl 3 [] 1 0 r0.length false],0⟩,⟨2,63,1,(r0.set 0 (IntKind.u64.wrap (x+1))).map jS,0⟩,⟨1,260,2,[tj],0⟩,oE qz] (rx:=Ce (fx {m with pc:=23} 3 10 0)) (jt {m with pc:=23} 3 10 0) O O O O O (zc O (zc O (zc (zg own) O))) O O (dd ?_);exact c9
  ·rw[gf (λh=>h.elim (rk h1) (rk h2))];refine dd ?_;refine tc ?_
   refine zX [1] [⟨1,38,8,[[I w.zo,I w.current,I w.lock,lI w.pins,lV w.ze,lL w.zd,.sl 2 [] 1 0 w.counts.length false,lR w.zr]],0⟩,oM ({m with pc:=22}),⟨1,0,1,(w.counts.map zP).set m.zf.toNat [C.sl 3 [] 1 0 r0.length false],0⟩,⟨2,63,1,(r0.set 0 (IntKind.u64.wrap (x+1))).map jS,0⟩,⟨1,260,2,[tj],0⟩,oE qz] (rx:=Ce (fx {m with pc:=22} 3 10 0)) (jt {m with pc:=22} 3 10 0) O O O O O (zc O (zc O (zc (zg own) O))) O O (dd ?_);exact c9
def oN(n:Int):Int:=if n<1\/5<n then 0 else n
def Rb(w:Wor)(m:eR)(r0:List Int)(x k:Int)(hk:oN m.answer.kind=k)(h0:0<=m.zf)(hr:w.counts[m.zf.toNat]?=some r0)(hx:r0[k.toNat]?=some x):
  tn 206 [⟨1,38,8,[[I w.zo,I w.current,I w.lock,lI w.pins,lV w.ze,lL w.zd,.sl 2 [] 1 0 w.counts.length false,lR w.zr]],0⟩,oM m,⟨1,0,1,(w.counts.map zP).set m.zf.toNat [C.sl 3 [] 1 0 r0.length false],0⟩,⟨2,63,1,(r0).map jS,0⟩] [.agg tj] (Ce (fx m 3 10 k))
   [⟨1,38,8,[[I w.zo,I w.current,I w.lock,lI w.pins,lV w.ze,lL w.zd,.sl 2 [] 1 0 w.counts.length false,lR w.zr]],0⟩,oM ({m with pc:=21}),⟨1,0,1,(w.counts.map zP).set m.zf.toNat [C.sl 3 [] 1 0 r0.length false],0⟩,⟨2,63,1,(r0.set k.toNat (IntKind.u64.wrap (x+1))).map jS,0⟩]:=by
 have e1:0+m.zf.toNat=m.zf.toNat:=gI _;have k0:0<=k:=by rw[<-hk];unfold oN;split <;> omega
 have k1:k.toNat<r0.length:=(dY.1 hx).1;have eU:m.zf.toNat<w.counts.length:=(dY.1 hr).1;have gt:((w.counts.map zP).set m.zf.toNat [C.sl 3 [] 1 0 r0.length false])[m.zf.toNat]?=some [C.sl 3 [] 1 0 r0.length false]:=gu (aq eU);have gx:(r0.map jS)[0+k.toNat]?=some (jS x):=by rw[gI,gj,hx];rfl
 have hst:(r0.map jS).set (0+k.toNat) [U (IntKind.u64.wrap (x+1))]=(r0.set k.toNat (IntKind.u64.wrap (x+1))).map jS:=by rw[gI,p9];rfl
 have own:∀r∈(w.counts.map zP).set m.zf.toNat [C.sl 3 [] 1 0 r0.length false],∀c∈r,zB c=true:=zC (enc:=zP) (λ_=>O) O _ _;have low:∀r∈(w.counts.map zP).set m.zf.toNat [C.sl 3 [] 1 0 r0.length false],∀c∈r,jc 4 9 c=true:=zC (enc:=zP) (λ_=>O) O _ _;refine aa func206 ?_;refine⟨λh1=>?_,λh1=>?_⟩
 ·obtain rfl:k=0:=by rw[<-hk];unfold oN;rw[gk (.inl (gH h1))]
  refine dd ?_;refine tc ?_
  refine uE ?_;(refine⟨h0,eU,dd ?_⟩);(rw[e1]);(refine⟨_,gt,tU,dd ?_⟩);(refine⟨k0,k1,dd ?_⟩);(refine⟨_,gx,tU,dd ?_⟩);(refine⟨k0,k1,dd ?_⟩);(refine⟨_,gx,rfl,dd ?_⟩);(rw[hst]);(refine zX [1] [⟨1,38,8,[[I w.zo,I w.current,I w.lock,lI w.pins,lV w.ze,lL w.zd,.sl 2 [] 1 0 w.counts.length false,lR w.zr]],0⟩,oM ({m with pc:=21}),⟨1,0,1,(w.counts.map zP).set m.zf.toNat [C.sl 3 [] 1 0 r0.length false],0⟩,⟨2,63,1,(r0.set ((0:Int)).toNat (IntKind.u64.wrap (x+1))).map jS,0⟩,⟨1,260,2,[tj],0⟩,oE qz] (rx:=Ce (fx {m with pc:=21} 3 10 ((0:Int)))) (jt {m with pc:=21} 3 10 ((0:Int))) O O O O O (zc O (zc O (zc (zg own) O))) O O (dd ?_));exact c9
 ·refine dd ?_;refine tc ?_
  refine⟨λh2=>?_,λh2=>?_⟩
  ·obtain rfl:k=0:=by rw[<-hk];unfold oN;rw[gk (.inr (gH h2))]
   refine dd ?_;refine tc ?_
   refine uE ?_;(refine⟨h0,eU,dd ?_⟩);(rw[e1]);(refine⟨_,gt,tU,dd ?_⟩);(refine⟨k0,k1,dd ?_⟩);(refine⟨_,gx,tU,dd ?_⟩);(refine⟨k0,k1,dd ?_⟩);(refine⟨_,gx,rfl,dd ?_⟩);(rw[hst]);(refine zX [1] [⟨1,38,8,[[I w.zo,I w.current,I w.lock,lI w.pins,lV w.ze,lL w.zd,.sl 2 [] 1 0 w.counts.length false,lR w.zr]],0⟩,oM ({m with pc:=21}),⟨1,0,1,(w.counts.map zP).set m.zf.toNat [C.sl 3 [] 1 0 r0.length false],0⟩,⟨2,63,1,(r0.set ((0:Int)).toNat (IntKind.u64.wrap (x+1))).map jS,0⟩,⟨1,260,2,[tj],0⟩,oE qz] (rx:=Ce (fx {m with pc:=21} 3 10 ((0:Int)))) (jt {m with pc:=21} 3 10 ((0:Int))) O O O O O (zc O (zc O (zc (zg own) O))) O O (dd ?_));exact c9
  ·obtain rfl:k=m.answer.kind:=by rw[<-hk];unfold oN;rw[gf (λh=>h.elim (rk h1) (rk h2))]
   refine dd ?_;refine tc ?_
   refine uE ?_;(refine⟨h0,eU,dd ?_⟩);(rw[e1]);(refine⟨_,gt,tU,dd ?_⟩);(refine⟨k0,k1,dd ?_⟩);(refine⟨_,gx,tU,dd ?_⟩);(refine⟨k0,k1,dd ?_⟩);(refine⟨_,gx,rfl,dd ?_⟩);(rw[hst]);(refine zX [1] [⟨1,38,8,[[I w.zo,I w.current,I w.lock,lI w.pins,lV w.ze,lL w.zd,.sl 2 [] 1 0 w.counts.length false,lR w.zr]],0⟩,oM ({m with pc:=21}),⟨1,0,1,(w.counts.map zP).set m.zf.toNat [C.sl 3 [] 1 0 r0.length false],0⟩,⟨2,63,1,(r0.set (m.answer.kind).toNat (IntKind.u64.wrap (x+1))).map jS,0⟩,⟨1,260,2,[tj],0⟩,oE qz] (rx:=Ce (fx {m with pc:=21} 3 10 (m.answer.kind))) (jt {m with pc:=21} 3 10 (m.answer.kind)) O O O O O (zc O (zc O (zc (zg own) O))) O O (dd ?_));exact c9
def yg{P:Program}{o:Oper}{σ:Operand->Value}{t t':TypeId}{x y:Operand}{k:IntKind}{n m:Int}(ho:o.op=.binOp .rem t x y t')(hx:σ x=.int k n)(hy:σ y=.int k m)(hm:m≠0):
  mq P (execOp σ o)=some (.value (.int k (n.tmod m))):=by
 have hi:Op.intDiv .rem k n m=pure (.int k (n.tmod m)):=by unfold Op.intDiv;rw[gf hm]
 have hg:eqGuard .rem t x y (σ x) (σ y)=pure ():=rfl
 have hb:binOp .rem t (σ x) (σ y)=pure (.int k (n.tmod m)):=by
  rw[hx,hy];simp only[binOp,hi];exact gf aj
 unfold execOp;rw[ho];dsimp only;rw[hg,hb]
 rfl
def P5{n:Int}(h:0<=n)(h':n<18446744073709551616):IntKind.u64.wrap n=n:=by
 simp only[IntKind.wrap,IntKind.signed,IntKind.bits,rT,sj,if_false];omega
abbrev eU(c:fF):List Int:=iZ c.zJ c.zJ.length
def w9(c:fF)(n:Int):Int×Int:=if (eU c).length=0 then (0,5) else (((eU c)[(n%(eU c).length).toNat]?).getD 0,0)
def UZ(c:fF)(n:Int)(hn:u64 n)(hl:c.zJ.length<1000000000000)(hh:(eU c).length<=c.zJ.length):tn 240 [] [Cc c,U n] (.fb [I (w9 c n).1,I (w9 c n).2]) []:=by
 have ml:((eU c).map encI).length=(eU c).length:=gp ..;refine ab func240 ?_;refine ah (v7 c hl) ?_;rw[ml];refine⟨λh0=>?_,λh0=>?_⟩
 ·unfold w9;have h0:=gH h0;rw[gk aw];exact uI
 ·unfold w9;have h0:=rk h0;rw[gf aw];refine dd ?_
  have hw:IntKind.u64.wrap ((((eU c).map encI).length:Nat):Int)≠0:=by
   have hk:=ml;have:IntKind.u64.wrap ((((eU c).map encI).length:Nat):Int)=(eU c).length:=by rw[ml];exact P5 aw aw
   omega
  split
  rotate_left
  ·rename_i hno;exact(hno _ (yg O O O hw)).elim
  ·rename_i v e;have e':=e.symm.trans (yg O O O hw);cases e'
   refine dd ?_;have ew:IntKind.u64.wrap ((((eU c).map encI).length:Nat):Int)=(eU c).length:=by rw[ml];exact P5 aw aw
   have et:n.tmod (IntKind.u64.wrap ((((eU c).map encI).length:Nat):Int))=n%(eU c).length:=by rw[ew];exact sD hn.1
   have b0:0<=n%((eU c).length:Int):=sA _ h0;have b1:n%((eU c).length:Int)<(eU c).length:=sr _ aw;have hi:(n%((eU c).length:Int)).toNat<(eU c).length:=aw
   have gx:((eU c).map encI)[(n.tmod (IntKind.u64.wrap ((((eU c).map encI).length:Nat):Int))).toNat]?=some (encI ((eU c)[(n%((eU c).length:Int)).toNat]'hi)):=by rw[et,gj,dZ hi];rfl
   refine⟨by show 0<=n.tmod (IntKind.u64.wrap ((((eU c).map encI).length:Nat):Int));rw[et];exact b0,_,gx,dd ?_⟩;rw[dZ hi];exact uI
def Um(a x b y:Int):tn 244 [] [I a,I x,I b,I y] (I (if y<x then b else a)) []:=by
 refine ab func244 ?_;refine⟨λh=>?_,λh=>?_⟩
 ·rw[gk (gH h)];exact du
 ·rw[gf (rk h)];exact du
def QR(w:Wor)(m:eR)(v:fc)(g:Gr)(e:En)(hv:Dq w m v g)(o0:0<=m.other)(ho:g.ends[m.other.toNat]?=some e):
  tn 201 [oW w,oM m] [.agg tj] (Ce (ib m v 1 7 e.zi)) [oW w,oM ({m with end_:=if e.zi<m.i then m.other else m.end_,pc:=9})]:=by
 have er:(g.ends.map zD)[m.other.toNat]?=some (zD e):=by rw[gj,ho];rfl
 refine aa func201 ?_;refine .inl ⟨⟨true,[],[],[1]⟩,au,uH ?_⟩;refine af [0,1] (Ld w m v g hv) ?_;refine hZ ?_
 (refine⟨o0,_,er,dd ?_⟩)
 refine .inl ⟨⟨true,[],[],[15]⟩,au,uH ?_⟩;refine ah (Um m.end_ m.i m.other e.zi) ?_;refine hZ ?_
 refine af [0,1] (wF w {m with end_:=if e.zi<m.i then m.other else m.end_,pc:=9} v ⟨hv.v0,hv.at_⟩ 1 7 e.zi) ?_;exact cW
structure m8(w:Wor)(m:eR)(v0:fc)(g0:Gr):Prop where
 pv:0<=m.version
 lv:m.version.toNat<w.ze.length
 pg:0<=m.zj
 lg:m.zj.toNat<v0.zq.length
 pe:0<=m.end_
 le:m.end_.toNat<g0.ends.length
def fS.ln{w:Wor}{m:eR}{v0:fc}{g0:Gr}{e0:En}(h:fS w m v0 g0 e0):m8 w m v0 g0:=⟨h.v0,(dY.1 h.at_).1,h.g0,(dY.1 h.fE).1,h.e0,(dY.1 h.fL).1⟩
def FE{P:Program}{f:FuncId}(sel:List Nat)(Kx:zl){K H0 H':zl}{args args0:List C}{r rx:C}(h:zb P f H0 args0 r H')(hR:qP H'=true)
 (hH:xy sel K=H0)(ha:args.map (xU sel 9)=args0)(z8:sel.all (λid=>Nat.blt id K.length)=true)(fV:yc sel=true)(fP:qP K=true){k:C->zl->Prop}
 (hp:wm sel K H'=Kx)(hr:yV (q9 sel K.length) 9 r=rx)(hk:k rx Kx):∃R,ql P f K args R/\∀r H2,R r H2->k r H2:=
 ⟨λx X=>x=rx/\X=Kx,(h.part sel hR hH ha z8 fV fP).lM ⟨hr,hp⟩,by rintro _ _ ⟨rfl,rfl⟩;exact hk⟩
def Hk(w:Wor)(m:eR)(v0:fc)(g0:Gr)(e0:En)(hv:m8 w m v0 g0):tn 239 (hE w m m v0 g0 e0 g0.zt e0.head e0.zi []) [.agg tj] (.ref 3 [] 2 m.zj.toNat 0) (hE w m m v0 g0 e0 g0.zt e0.head e0.zi []):=by
 have h0:=hv.pv;have g0':=hv.pg;have lv:m.version.toNat<w.ze.length:=hv.lv;have lg:m.zj.toNat<v0.zq.length:=hv.lg;have lowV:∀r∈ia w m v0 3,∀c∈r,jc 6 9 c=true:=zC (enc:=zN) (λ_=>O) O _ _;have lowG:∀r∈fX m v0 g0 g0.zt 4,∀c∈r,jc 6 9 c=true:=zC (enc:=zK) (λ_=>O) O _ _;have lowE:∀r∈fQ m g0 e0 e0.head 5 e0.zi,∀c∈r,jc 6 9 c=true:=zC (enc:=zD) (λ_=>O) O _ _;have e1:0+m.version.toNat=m.version.toNat:=gI _;have e2:0+m.zj.toNat=m.zj.toNat:=gI _;have gv:(ia w m v0 3)[m.version.toNat]?=some ((qv v0.snap++[C.sl 3 [] 2 0 v0.zq.length false,Bo v0.qQ])):=gu (aq lv);refine aa func239 ?_;refine uE ?_;refine⟨h0,lv,dd ?_⟩;rw[e1];refine⟨_,gv,cQ,dd ?_⟩;refine⟨g0',lg,dd ?_⟩;rw[e2];exact cX
def vV(w:Wor)(m:eR)(v0:fc)(g0:Gr)(e0:En)(hv:m8 w m v0 g0):tn 243 (hE w m m v0 g0 e0 g0.zt e0.head e0.zi []) [.agg tj] (.ref 4 [] 3 m.end_.toNat 0) (hE w m m v0 g0 e0 g0.zt e0.head e0.zi []):=by
 have h0:=hv.pe;have lg:m.zj.toNat<v0.zq.length:=hv.lg;have le:m.end_.toNat<g0.ends.length:=hv.le;have ownV:∀r∈ia w m v0 3,∀c∈r,zB c=true:=zC (enc:=zN) (λ_=>O) O _ _;have ownG:∀r∈fX m v0 g0 g0.zt 4,∀c∈r,zB c=true:=zC (enc:=zK) (λ_=>O) O _ _;have ownE:∀r∈fQ m g0 e0 e0.head 5 e0.zi,∀c∈r,zB c=true:=zC (enc:=zD) (λ_=>O) O _ _;have lowV:∀r∈ia w m v0 3,∀c∈r,jc 6 9 c=true:=zC (enc:=zN) (λ_=>O) O _ _;have lowG:∀r∈fX m v0 g0 g0.zt 4,∀c∈r,jc 6 9 c=true:=zC (enc:=zK) (λ_=>O) O _ _;have lowE:∀r∈fQ m g0 e0 e0.head 5 e0.zi,∀c∈r,jc 6 9 c=true:=zC (enc:=zD) (λ_=>O) O _ _;have e2:0+m.end_.toNat=m.end_.toNat:=gI _;have gg:(fX m v0 g0 g0.zt 4)[m.zj.toNat]?=some ([U g0.zt,C.sl 4 [] 3 0 g0.ends.length false]):=gu (aq lg);refine aa func243 ?_;refine .inl ⟨⟨true,[],[],[1]⟩,au,uH ?_⟩;refine zX [0,1,2,3,4,5] (hE w m m v0 g0 e0 g0.zt e0.head e0.zi [⟨1,260,2,[tj],0⟩]) (rx:=.ref 3 [] 2 m.zj.toNat 0) (Hk w m v0 g0 e0 hv) (zc O (zc O (zc (zg ownV) (zc (zg ownG) (zc (zg ownE) O))))) uT O O O (zc O (zc O (zc (zg ownV) (zc (zg ownG) (zc (zg ownE) O))))) uU O (dd ?_);refine⟨_,gg,cR,dd ?_⟩;refine⟨h0,le,dd ?_⟩;rw[e2];exact cX
def Vb(w:Wor)(m:eR)(v0:fc)(g0:Gr)(e0:En)(hv:m8 w m v0 g0)(a b c:Int):tn 242 (hE w m m v0 g0 e0 g0.zt e0.head e0.zi []) [.agg tj,I a,I b,I c] (Ce (ib m v0 a b c)) (hE w m m v0 g0 e0 g0.zt e0.head e0.zi []):=by
 have h0:=hv.pv;have lv:m.version.toNat<w.ze.length:=hv.lv;have e1:0+m.version.toNat=m.version.toNat:=gI _
 clear hv
 obtain⟨sn,gs,fr⟩:=v0;cases fr
 all_goals
  have ownV:∀b,∀r∈(w.ze.map zN).set m.version.toNat (qv sn++[C.sl 3 [] 2 0 gs.length false,Bo b]),∀c∈r,zB c=true:=λb=>zC (enc:=zN) (λ_=>O) O _ _
  have ownG:∀r∈(gs.map zK).set m.zj.toNat ([U g0.zt,C.sl 4 [] 3 0 g0.ends.length false]),∀c∈r,zB c=true:=zC (enc:=zK) (λ_=>O) O _ _;have ownE:∀r∈fQ m g0 e0 e0.head 5 e0.zi,∀c∈r,zB c=true:=zC (enc:=zD) (λ_=>O) O _ _;have lowV:∀b,∀r∈(w.ze.map zN).set m.version.toNat (qv sn++[C.sl 3 [] 2 0 gs.length false,Bo b]),∀c∈r,jc 6 9 c=true:=λb=>zC (enc:=zN) (λ_=>O) O _ _
  have gv:∀b,((w.ze.map zN).set m.version.toNat (qv sn++[C.sl 3 [] 2 0 gs.length false,Bo b]))[m.version.toNat]?=some (qv sn++[C.sl 3 [] 2 0 gs.length false,Bo b]):=λb=>gu (aq lv)
  have lowG:∀r∈(gs.map zK).set m.zj.toNat ([U g0.zt,C.sl 4 [] 3 0 g0.ends.length false]),∀c∈r,jc 6 9 c=true:=zC (enc:=zK) (λ_=>O) O _ _;have lowE:∀r∈fQ m g0 e0 e0.head 5 e0.zi,∀c∈r,jc 6 9 c=true:=zC (enc:=zD) (λ_=>O) O _ _;refine aa func242 ?_;refine zX [1] [⟨1,38,8,[(iL w 2)],0⟩,oM m,⟨1,0,5,(w.ze.map zN).set m.version.toNat (qv sn++[C.sl 3 [] 2 0 gs.length false,Bo _]),0⟩,⟨1,0,2,(gs.map zK).set m.zj.toNat ([U g0.zt,C.sl 4 [] 3 0 g0.ends.length false]),0⟩,⟨1,0,3,fQ m g0 e0 e0.head 5 e0.zi,0⟩,⟨2,3,1,e0.next.map encI,0⟩,⟨1,260,2,[tj],0⟩,oE qz] (rx:=Ce (fx m a b c)) (jt m a b c) O O O O O (zc O (zc O (zc (zg (ownV _)) (zc (zg ownG) (zc (zg ownE) O))))) O O (dd ?_);refine .inl ⟨⟨false,[6,9,11,14,17],[0,1,2,6],[]⟩,au,uH ?_⟩;refine⟨h0,lv,dd ?_⟩;rw[e1];refine⟨_,gv _,(by show 4+1<=5;decide),dd ?_⟩
  first|((refine ya (dd ?_)))|((refine yb (dd ?_)))
  refine hZ ?_
  exact⟨.inl O,_,_,.refl _,rfl,zn.xw 6 hC O O O (zH O (zH O (zH (qh (lowV _)) (zH (qh lowG) (zH (qh lowE) O))))) O⟩
abbrev PU(e:En)(n:Int):En:={e with zi:=IntKind.i64.wrap (e.zi+n)}
def Sa(w:Wor)(m:eR)(v0:fc)(g0:Gr)(e0:En)(hv:m8 w m v0 g0):tn 205 (hE w m m v0 g0 e0 g0.zt e0.head e0.zi []) [.agg tj] (Ce (ib m v0 3 7 (IntKind.i64.wrap (e0.zi+1))))
  [⟨1,38,8,[(iL w 2)],0⟩,oM ({m with answer:=⟨1,m.version,m.zj,m.end_,m.slot,m.listen,0,⟨0,0,0,0,0,0⟩⟩,pc:=20}),⟨1,0,5,ia w m v0 3,0⟩,⟨1,0,2,fX m v0 g0 g0.zt 4,0⟩,⟨1,0,3,(g0.ends.map zD).set m.end_.toNat [U e0.head,C.sl 5 [] 1 0 e0.next.length false,I (IntKind.i64.wrap (e0.zi+1))],0⟩,⟨2,3,1,e0.next.map encI,0⟩]:=by
 have le:=hv.le;have ownV:∀r∈ia w m v0 3,∀c∈r,zB c=true:=zC (enc:=zN) (λ_=>O) O _ _;have ownG:∀r∈fX m v0 g0 g0.zt 4,∀c∈r,zB c=true:=zC (enc:=zK) (λ_=>O) O _ _;have ownE:∀r∈fQ m g0 e0 e0.head 5 e0.zi,∀c∈r,zB c=true:=zC (enc:=zD) (λ_=>O) O _ _;have ge:(fQ m g0 e0 e0.head 5 e0.zi)[m.end_.toNat]?=some ([U e0.head,C.sl 5 [] 1 0 e0.next.length false,I e0.zi]):=gu (aq le);refine aa func205 ?_;refine FE [0,1,2,3,4,5] (hE w m m v0 g0 e0 g0.zt e0.head e0.zi [⟨1,260,2,[tj],0⟩,oE qz]) (rx:=.ref 4 [] 3 m.end_.toNat 0) (vV w m v0 g0 e0 hv) (zc O (zc O (zc (zg ownV) (zc (zg ownG) (zc (zg ownE) O))))) uT O O O (zc O (zc O (zc (zg ownV) (zc (zg ownG) (zc (zg ownE) O))))) uU O (dd ?_);refine⟨_,ge,cS,dd ?_⟩;refine⟨_,ge,rfl,dd ?_⟩;rw[g8];refine uE ?_;have ownE2:∀r∈(g0.ends.map zD).set m.end_.toNat [U e0.head,C.sl 5 [] 1 0 e0.next.length false,I (IntKind.i64.wrap (e0.zi+1))],∀c∈r,zB c=true:=zC (enc:=zD) (λ_=>O) O _ _;refine .inl ⟨⟨true,[],[],[2,6]⟩,au,uH ?_⟩;have hv2:m8 w {m with answer:=⟨1,m.version,m.zj,m.end_,m.slot,m.listen,0,⟨0,0,0,0,0,0⟩⟩,pc:=20} v0 g0:=⟨hv.pv,hv.lv,hv.pg,hv.lg,hv.pe,hv.le⟩;have ge2:((g0.ends.map zD).set m.end_.toNat [U e0.head,C.sl 5 [] 1 0 e0.next.length false,I (IntKind.i64.wrap (e0.zi+1))])[m.end_.toNat]?=some [U e0.head,C.sl 5 [] 1 0 e0.next.length false,I (IntKind.i64.wrap (e0.zi+1))]:=gu (aq le);have lowV:∀r∈ia w m v0 3,∀c∈r,jc 6 9 c=true:=zC (enc:=zN) (λ_=>O) O _ _;have lowG:∀r∈fX m v0 g0 g0.zt 4,∀c∈r,jc 6 9 c=true:=zC (enc:=zK) (λ_=>O) O _ _;have lowE:∀r∈(g0.ends.map zD).set m.end_.toNat [U e0.head,C.sl 5 [] 1 0 e0.next.length false,I (IntKind.i64.wrap (e0.zi+1))],∀c∈r,jc 6 9 c=true:=zC (enc:=zD) (λ_=>O) O _ _;refine zX [0,1,2,3,4,5] [⟨1,38,8,[(iL w 2)],0⟩,oM ({m with answer:=⟨1,m.version,m.zj,m.end_,m.slot,m.listen,0,⟨0,0,0,0,0,0⟩⟩,pc:=20}),⟨1,0,5,ia w m v0 3,0⟩,⟨1,0,2,fX m v0 g0 g0.zt 4,0⟩,⟨1,0,3,(g0.ends.map zD).set m.end_.toNat [U e0.head,C.sl 5 [] 1 0 e0.next.length false,I (IntKind.i64.wrap (e0.zi+1))],0⟩,⟨2,3,1,e0.next.map encI,0⟩,⟨1,260,2,[tj],0⟩,oE qz] (rx:=.ref 4 [] 3 m.end_.toNat 0) (vV w _ v0 g0 (PU e0 1) hv2) (zc O (zc O (zc (zg ownV) (zc (zg ownG) (zc (zg ownE2) O))))) uT O O O (zc O (zc O (zc (zg ownV) (zc (zg ownG) (zc (zg ownE2) O))))) uU O (dd ?_);refine⟨_,ge2,cS,dd ?_⟩;refine zX [0,1,2,3,4,5] [⟨1,38,8,[(iL w 2)],0⟩,oM ({m with answer:=⟨1,m.version,m.zj,m.end_,m.slot,m.listen,0,⟨0,0,0,0,0,0⟩⟩,pc:=20}),⟨1,0,5,ia w m v0 3,0⟩,⟨1,0,2,fX m v0 g0 g0.zt 4,0⟩,⟨1,0,3,(g0.ends.map zD).set m.end_.toNat [U e0.head,C.sl 5 [] 1 0 e0.next.length false,I (IntKind.i64.wrap (e0.zi+1))],0⟩,⟨2,3,1,e0.next.map encI,0⟩,⟨1,260,2,[tj],0⟩,oE qz] (rx:=Ce (ib m v0 3 7 (IntKind.i64.wrap (e0.zi+1)))) (Vb w _ v0 g0 (PU e0 1) hv2 3 7 (IntKind.i64.wrap (e0.zi+1))) (zc O (zc O (zc (zg ownV) (zc (zg ownG) (zc (zg ownE2) O))))) uT O O O (zc O (zc O (zc (zg ownV) (zc (zg ownG) (zc (zg ownE2) O))))) uU O (dd ?_);exact cX
end Go.Wor
