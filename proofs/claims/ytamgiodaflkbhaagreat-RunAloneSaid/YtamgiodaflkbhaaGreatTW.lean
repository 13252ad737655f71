import Derived.Test.YtamgiodaflkbhaaGreatTV
set_option linter.all false
set_option maxRecDepth 100000
set_option maxHeartbeats 4000000
namespace Go.Wor
open Go.Ab Go.Proofs Tryz Go.Hy Go.Gat Go.Nam Go.Hos Go.Con Go.Sna
variable{w:Wor}{m:eQ}{v:eX}{P:Program}{f:FuncId}{args0:List C}{r:C}{g:Gr}
abbrev fc(m:eQ)(a b c:Int):e7:=⟨m.zl,0,a,b, -1,false,c,false,false,false,kk⟩
abbrev fD(m:eQ)(v:eX)(a b c:Int):e7:=⟨m.zl,0,a,b,m.version,v.qF,c,false,false,false,kk⟩
def ji(m:eQ)(a b c:Int):th 258 [oM m] [.agg [.za,.ref 0 [] 44 0 0],I a,I b,I c] (Ce (fc m a b c)) [oM m]:=by
 refine aa func258 ?_;exact dG
abbrev wG(n:Int):fe:=⟨n,0,0,0,0,0,0,⟨0,0,0,0,0,0⟩⟩
abbrev kf(m:eQ)(n:Int):eQ:={m with answer:=wG n,pc:=20}
def xM(m:eQ)(n:Int):th 259 [oM m] [.agg [.za,.ref 0 [] 44 0 0],I n] (.eR []) [oM (kf m n)]:=by
 refine aa func259 ?_;refine .inl ⟨⟨false,[3],[1],[]⟩,ak,uH ?_⟩;refine tc ?_
 exact⟨.inr V,_,_,.refl _,rfl,cE 1⟩
structure lS(w:Wor)(m:eQ)(v:eX):Prop where
 v0:0<=m.version
 at_:w.zd[m.version.toNat]?=some v
def lS.row(h:lS w m v):(w.zd.map zt)[m.version.toNat]?=some (zt v):=by rw[gM,h.at_];rfl
def k8(w:Wor)(m:eQ)(v:eX)(hv:lS w m v)(a b c:Int):th 264 [oW w,oM m] [.agg tg,I a,I b,I c] (Ce (fD m v a b c)) [oW w,oM m]:=by
 have h0:=hv.v0;have hr:=hv.row;obtain⟨sn,gs,fr⟩:=v;cases fr
 all_goals
  refine aa func264 ?_;refine ae [1] (ji m a b c) ?_;refine .inl ⟨⟨false,[6,9,11,14,17],[0,1,2],[]⟩,ak,uH ?_⟩;(refine⟨h0,_,hr,dd ?_⟩)
  first|((refine ya (dd ?_)))|((refine yb (dd ?_)))
  refine tc ?_
  exact cX
def DS(sel:List Nat){K H0 H':zq}{args:List C}(h:zb P f H0 args0 r H')(hR:qQ H'=true)
 (hH:xv sel K=H0)(ha:args.map (jK sel 9)=args0)(qc:sel.all (λid=>Nat.blt id K.length)=true)(fN:yk sel=true)(fI:qQ K=true){k:C->zq->Prop}
 (hk:Ai (wz sel K H') λX=>qK (yG (q6 sel K.length) 9 r) λc=>k c X):∃R',qz P f K args R'/\∀r H2,R' r H2->k r H2:=
 JE sel (h.fM (R:=λx X=>x=r/\X=H') ⟨rfl,rfl⟩) (λ_ _ e=>e.2 ▸ hR) hH ha qc fN fI (by rintro _ _ ⟨rfl,rfl⟩;exact hk)
structure B0(w:Wor)(m:eQ)(v:eX)(g:Gr):Prop extends lS w m v where
 g0:0<=m.zp
 fV:v.zg[m.zp.toNat]?=some g
def B0.nR(h:B0 w m v g):(v.zg.map zy)[m.zp.toNat]?=some (zy g):=by rw[gM,h.fV];rfl
structure fF(w:Wor)(m:eQ)(v:eX)(g:Gr)(e:En):Prop extends B0 w m v g where
 e0:0<=m.end_
 ig:g.ends[m.end_.toNat]?=some e
def fF.o3{e:En}(h:fF w m v g e):(g.ends.map zu)[m.end_.toNat]?=some (zu e):=by rw[gM,h.ig];rfl
def I9(w:Wor)(m:eQ)(v:eX)(g:Gr)(hv:B0 w m v g):th 261 [oW w,oM m] [.agg tg] (.jL (zy g)) [oW w,oM m]:=by
 have h0:=hv.v0;have hr:=hv.row;have g0:=hv.g0;have gr:=hv.nR;refine aa func261 ?_;refine uE ?_;(refine⟨h0,_,hr,dd ?_⟩)
 (refine⟨g0,_,gr,dd ?_⟩)
 exact cX
def kR(w:Wor)(m:eQ)(v:eX)(g:Gr)(e:En)(hv:fF w m v g e):th 265 [oW w,oM m] [.agg tg] (.jL (zu e)) [oW w,oM m]:=by
 have e0:=hv.e0;have er:=hv.o3;refine aa func265 ?_;refine .inl ⟨⟨true,[],[],[1]⟩,ak,uH ?_⟩;refine ae [0,1] (I9 w m v g hv.toB0) ?_;refine tc ?_
 (refine⟨e0,_,er,dd ?_⟩)
 exact cX
def vY(w:Wor)(m:eQ)(v:eX)(c:fq)(hv:lS w m v)(c0:0<=m.zp)(hc:v.snap.zi[m.zp.toNat]?=some c):th 263 [oW w,oM m] [.agg tg] (Cc c) [oW w,oM m]:=by
 have h0:=hv.v0;have hr:=hv.row;have cr:(v.snap.zi.map jl)[m.zp.toNat]?=some (jl c):=by rw[gM,hc];rfl
 refine aa func263 ?_;refine uE ?_;(refine⟨h0,_,hr,dd ?_⟩)
 (refine⟨c0,_,cr,dd ?_⟩)
 exact cX
def NM(w:Wor)(m:eQ)(v:eX)(g:Gr)(e:En)(hv:fF w m v g e){x:Int}(s0:0<=m.slot)(hx:e.next[m.slot.toNat]?=some x):
  th 216 [oW w,oM m] [.agg tg] (Ce (fD m v 1 9 x)) [oW w,oM ({m with link:=x,pc:=11})]:=by
 have er:(e.next.map encI)[m.slot.toNat]?=some (encI x):=by rw[gM,hx];rfl
 refine aa func216 ?_;refine .inl ⟨⟨true,[3],[2],[5]⟩,ak,uH ?_⟩;refine ae [0,1] (kR w m v g e hv) ?_;refine tc ?_
 (refine⟨s0,_,er,dd ?_⟩)
 refine tc ?_
 refine zaL ?_;refine ae [0,1] (k8 w {m with link:=x,pc:=11} v ⟨hv.v0,hv.at_⟩ 1 9 x) ?_;exact cX
def Nb(w:Wor)(m:eQ)(v:eX)(g:Gr)(e:En)(hv:fF w m v g e):
  th 213 [oW w,oM m] [.agg tg] (Ce (fD m v 1 7 e.zo)) [oW w,oM ({m with i:=e.zo,pc:=8})]:=by
 refine aa func213 ?_;refine .inl ⟨⟨true,[3],[2],[5]⟩,ak,uH ?_⟩;refine ae [0,1] (kR w m v g e hv) ?_;refine tc ?_
 refine tc ?_
 refine zaL ?_;refine ae [0,1] (k8 w {m with i:=e.zo,pc:=8} v ⟨hv.v0,hv.at_⟩ 1 7 e.zo) ?_;exact cX
def NL(w:Wor)(m:eQ)(v:eX)(g:Gr)(e:En)(hv:fF w m v g e)(he:u64 e.head)(hi:0<=e.head%4294967296-1/\e.head%4294967296-1<e.next.length):
  th 215 [oW w,oM m] [.agg tg] (Ce (fD m v 1 8 (e.head%4294967296-1))) [oW w,oM ({m with word:=e.head,slot:=e.head%4294967296-1,pc:=10})]:=by
 have hi1:=hi.1;have hi2:=hi.2;have ml:(e.next.map encI).length=e.next.length:=gO ..;refine aa func215 ?_;refine DS [0,1] (kR w m v g e hv) V V V V V V (dd ?_);refine af (Slp.qG e.head he) ?_;refine zbv ?_;refine DS [0,1] (kR w {m with word:=e.head} v g e ⟨⟨⟨hv.v0,hv.at_⟩,hv.g0,hv.fV⟩,hv.e0,hv.ig⟩) V V V V V V (dd ?_);rw[ml];refine zbv ?_;refine ae [0,1] (k8 w {m with word:=e.head,slot:=e.head%4294967296-1,pc:=10} v ⟨hv.v0,hv.at_⟩ 1 8 (e.head%4294967296-1)) ?_;exact cX
def Qg(w:Wor)(m:eQ)(x:fj)(h0:0<=m.listen)(hx:w.zc[m.listen.toNat]?=some x):
  th 210 [⟨1,38,8,[iv 2 w],0⟩,oM m,⟨2,98,4,(w.zc).map zU,0⟩] [.agg tg] (Ce (fc m 3 5 (IntKind.i64.wrap (x.zo+1))))
   [⟨1,38,8,[iv 2 w],0⟩,oM ({m with pc:=5}),⟨2,98,4,(w.zc.set m.listen.toNat {x with zo:=IntKind.i64.wrap (x.zo+1)}).map zU,0⟩]:=by
 have e1:0+m.listen.toNat=m.listen.toNat:=gZ _;have eP:m.listen.toNat<w.zc.length:=(gN.1 hx).1;have gx:(w.zc.map zU)[m.listen.toNat]?=some (zU x):=by rw[gM,hx];rfl
 refine aa func210 ?_;have hst:(w.zc.map zU).set m.listen.toNat [Tx x.name,Bo x.drain,I (IntKind.i64.wrap (x.zo+1)),Bo x.closed]=(w.zc.set m.listen.toNat {x with zo:=IntKind.i64.wrap (x.zo+1)}).map zU:=bE
 have gx2:((w.zc.set m.listen.toNat {x with zo:=IntKind.i64.wrap (x.zo+1)}).map zU)[m.listen.toNat]?=some (zU {x with zo:=IntKind.i64.wrap (x.zo+1)}):=by rw[gM,gX eP];rfl
 refine uE ?_;refine⟨h0,eP,dd ?_⟩;rw[e1];refine⟨_,gx,tY,dd ?_⟩;refine⟨_,gx,rfl,dd ?_⟩;rw[hst];refine zaL ?_;refine⟨_,gx2,tY,dd ?_⟩;refine ae [1] (ji {m with pc:=5} 3 5 (IntKind.i64.wrap (x.zo+1))) ?_;exact⟨.inl V,_,_,.refl _,rfl,cE 3⟩
def P1(w:Wor)(m:eQ)(x:fj)(h0:0<=m.listen)(hx:w.zc[m.listen.toNat]?=some x):
  th 221 [⟨1,38,8,[iv 2 w],0⟩,oM m,⟨2,98,4,(w.zc).map zU,0⟩] [.agg tg] (Ce (fc m 3 5 (IntKind.i64.wrap (x.zo-1))))
   [⟨1,38,8,[iv 2 w],0⟩,oM ({m with pc:=23}),⟨2,98,4,(w.zc.set m.listen.toNat {x with zo:=IntKind.i64.wrap (x.zo-1)}).map zU,0⟩]:=by
 have e1:0+m.listen.toNat=m.listen.toNat:=gZ _;have eP:m.listen.toNat<w.zc.length:=(gN.1 hx).1;have gx:(w.zc.map zU)[m.listen.toNat]?=some (zU x):=by rw[gM,hx];rfl
 refine aa func221 ?_;have hst:(w.zc.map zU).set m.listen.toNat [Tx x.name,Bo x.drain,I (IntKind.i64.wrap (x.zo-1)),Bo x.closed]=(w.zc.set m.listen.toNat {x with zo:=IntKind.i64.wrap (x.zo-1)}).map zU:=bE
 have gx2:((w.zc.set m.listen.toNat {x with zo:=IntKind.i64.wrap (x.zo-1)}).map zU)[m.listen.toNat]?=some (zU {x with zo:=IntKind.i64.wrap (x.zo-1)}):=by rw[gM,gX eP];rfl
 refine uE ?_;refine⟨h0,eP,dd ?_⟩;rw[e1];refine⟨_,gx,tY,dd ?_⟩;refine⟨_,gx,rfl,dd ?_⟩;rw[hst];refine zaL ?_;refine⟨_,gx2,tY,dd ?_⟩;refine ae [1] (ji {m with pc:=23} 3 5 (IntKind.i64.wrap (x.zo-1))) ?_;exact⟨.inl V,_,_,.refl _,rfl,cE 3⟩
def zW(sel:List Nat)(Kx:zq){K H0 H':zq}{args:List C}{rx:C}(h:zb P f H0 args0 r H')(hR:qQ H'=true)
 (hH:xv sel K=H0)(ha:args.map (jK sel 9)=args0)(qc:sel.all (λid=>Nat.blt id K.length)=true)(fN:yk sel=true)(fI:qQ K=true){k:C->zq->Prop}
 (hp:wz sel K H'=Kx)(hr:yG (q6 sel K.length) 9 r=rx)(hk:okB rx λc=>k c Kx):∃r H2,zb P f K args r H2/\okB r λc=>k c H2:=
 ⟨_,_,h.part sel hR hH ha qc fN fI,by rw[hp,hr];exact hk⟩
def zS{n:Nat}{x:Ob}{H:zq}(h1:ql n [x]=true)(h2:ql n H=true):ql n (x::H)=true:=by
 unfold ql at *;simp only[sE,ug,tu] at *;rw[h1,h2];rfl
def qi{n ty sz fz:Nat}{rows:List (List C)}(h:∀r∈rows,∀c∈r,qE n 9 c=true):ql n [⟨1,ty,sz,rows,fz⟩]=true:=by
 unfold ql;simp only[sE,ug,tu];have:(rows.all λr=>r.all (qE n 9))=true:=gV.2 λr hr=>gV.2 λc hc=>h r hr c hc
 rw[this];simp
def NQ(w:Wor)(m:eQ)(r0:List Int)(x:Int)(h0:0<=m.zl)(hr:w.counts[m.zl.toNat]?=some r0)(hx:r0[0]?=some x):
  th 220 [⟨1,38,8,[ik 2 w],0⟩,oM m,⟨1,0,1,(w.counts.map zA).set m.zl.toNat [C.sl 3 [] 1 0 r0.length false],0⟩,⟨2,52,1,(r0).map qB,0⟩] [.agg tg] (Ce (fc m 3 10 0))
   [⟨1,38,8,[ik 2 w],0⟩,oM ({m with pc:=if m.answer.kind=1\/m.listen<0 then 23 else 22}),⟨1,0,1,(w.counts.map zA).set m.zl.toNat [C.sl 3 [] 1 0 r0.length false],0⟩,⟨2,52,1,(r0.set 0 (IntKind.u64.wrap (x+1))).map qB,0⟩]:=by
 have e1:0+m.zl.toNat=m.zl.toNat:=gZ _;have eP:m.zl.toNat<w.counts.length:=(gN.1 hr).1;have gt:((w.counts.map zA).set m.zl.toNat [C.sl 3 [] 1 0 r0.length false])[m.zl.toNat]?=some [C.sl 3 [] 1 0 r0.length false]:=gX mD;have gx:(r0.map qB)[0]?=some (qB x):=by rw[gM,hx];rfl
 have hl0:0<r0.length:=(gN.1 hx).1;have hst:(r0.map qB).set 0 [U (IntKind.u64.wrap (x+1))]=(r0.set 0 (IntKind.u64.wrap (x+1))).map qB:=bE
 have own:∀r∈(w.counts.map zA).set m.zl.toNat [C.sl 3 [] 1 0 r0.length false],∀c∈r,zG c=true:=zF (enc:=zA) (λ_=>V) V _ _;have low:∀r∈(w.counts.map zA).set m.zl.toNat [C.sl 3 [] 1 0 r0.length false],∀c∈r,qE 4 9 c=true:=zF (enc:=zA) (λ_=>V) V _ _;refine aa func220 ?_;refine uE ?_;refine⟨h0,eP,dd ?_⟩;rw[e1];refine⟨_,gt,tL,dd ?_⟩;refine⟨aj,hl0,dd ?_⟩;refine⟨_,gx,tL,dd ?_⟩;refine⟨aj,hl0,dd ?_⟩;refine⟨_,gx,rfl,dd ?_⟩;have hst2:(r0.map qB).set (0+Int.toNat 0) [U (IntKind.u64.wrap (x+1))]=(r0.set 0 (IntKind.u64.wrap (x+1))).map qB:=hst;rw[hst2];refine⟨λh1=>?_,λh1=>?_⟩
 .rw[gS (.inl (gQ h1))];refine zac ?_
  exact zaY
 .refine dd ?_;refine⟨λh2=>?_,λh2=>?_⟩
  .rw[gS (.inr (gQ h2))];refine zac ?_
   exact zaY
  .rw[gP (λh=>h.elim (gR h1) (gR h2))];refine zac ?_
   refine zW [1] [⟨1,38,8,[ik 2 w],0⟩,oM ({m with pc:=22}),⟨1,0,1,(w.counts.map zA).set m.zl.toNat [C.sl 3 [] 1 0 r0.length false],0⟩,⟨2,52,1,(r0.set 0 (IntKind.u64.wrap (x+1))).map qB,0⟩,⟨1,229,2,[tg],0⟩,oE zY] (rx:=Ce (fc {m with pc:=22} 3 10 0)) (ji {m with pc:=22} 3 10 0) V V V V V (ze V (ze V (ze (zf own) V))) V V (dd ?_);exact dh
def wv(n:Int):Int:=if n<1\/5<n then 0 else n
def Ny(w:Wor)(m:eQ)(r0:List Int)(x k:Int)(hk:wv m.answer.kind=k)(h0:0<=m.zl)(hr:w.counts[m.zl.toNat]?=some r0)(hx:r0[k.toNat]?=some x):
  th 219 [⟨1,38,8,[ik 2 w],0⟩,oM m,⟨1,0,1,(w.counts.map zA).set m.zl.toNat [C.sl 3 [] 1 0 r0.length false],0⟩,⟨2,52,1,(r0).map qB,0⟩] [.agg tg] (Ce (fc m 3 10 k))
   [⟨1,38,8,[ik 2 w],0⟩,oM ({m with pc:=21}),⟨1,0,1,(w.counts.map zA).set m.zl.toNat [C.sl 3 [] 1 0 r0.length false],0⟩,⟨2,52,1,(r0.set k.toNat (IntKind.u64.wrap (x+1))).map qB,0⟩]:=by
 have e1:0+m.zl.toNat=m.zl.toNat:=gZ _;have k0:0<=k:=by rw[<-hk];unfold wv;split <;> omega
 have k1:k.toNat<r0.length:=(gN.1 hx).1;have eP:m.zl.toNat<w.counts.length:=(gN.1 hr).1;have gt:((w.counts.map zA).set m.zl.toNat [C.sl 3 [] 1 0 r0.length false])[m.zl.toNat]?=some [C.sl 3 [] 1 0 r0.length false]:=gX mD;have gx:(r0.map qB)[0+k.toNat]?=some (qB x):=by rw[gZ,gM,hx];rfl
 have hst:(r0.map qB).set (0+k.toNat) [U (IntKind.u64.wrap (x+1))]=(r0.set k.toNat (IntKind.u64.wrap (x+1))).map qB:=by rw[gZ,r3];rfl
 have own:∀r∈(w.counts.map zA).set m.zl.toNat [C.sl 3 [] 1 0 r0.length false],∀c∈r,zG c=true:=zF (enc:=zA) (λ_=>V) V _ _;have low:∀r∈(w.counts.map zA).set m.zl.toNat [C.sl 3 [] 1 0 r0.length false],∀c∈r,qE 4 9 c=true:=zF (enc:=zA) (λ_=>V) V _ _;refine aa func219 ?_;refine⟨λh1=>?_,λh1=>?_⟩
 .obtain rfl:k=0:=by rw[<-hk];unfold wv;rw[gS (.inl (gQ h1))]
  refine zac ?_
  refine uE ?_;exact zaK
 .refine zac ?_
  refine⟨λh2=>?_,λh2=>?_⟩
  .obtain rfl:k=0:=by rw[<-hk];unfold wv;rw[gS (.inr (gQ h2))]
   refine zac ?_
   refine uE ?_;exact zaK
  .obtain rfl:k=m.answer.kind:=by rw[<-hk];unfold wv;rw[gP (λh=>h.elim (gR h1) (gR h2))]
   refine zac ?_
   refine uE ?_;(refine⟨h0,eP,dd ?_⟩);(rw[e1]);(refine⟨_,gt,tL,dd ?_⟩);(refine⟨k0,k1,dd ?_⟩);(refine⟨_,gx,tL,dd ?_⟩);(refine⟨k0,k1,dd ?_⟩);(refine⟨_,gx,rfl,dd ?_⟩);(rw[hst]);(refine zW [1] [⟨1,38,8,[ik 2 w],0⟩,oM ({m with pc:=21}),⟨1,0,1,(w.counts.map zA).set m.zl.toNat [C.sl 3 [] 1 0 r0.length false],0⟩,⟨2,52,1,(r0.set (m.answer.kind).toNat (IntKind.u64.wrap (x+1))).map qB,0⟩,⟨1,229,2,[tg],0⟩,oE zY] (rx:=Ce (fc {m with pc:=21} 3 10 (m.answer.kind))) (ji {m with pc:=21} 3 10 (m.answer.kind)) V V V V V (ze V (ze V (ze (zf own) V))) V V (dd ?_));exact dh
def jV{o:Oper}{σ:Operand->Value}{t t':TypeId}{x y:Operand}{k:IntKind}{n m:Int}(ho:o.op=.binOp .rem t x y t')(hx:σ x=.int k n)(hy:σ y=.int k m)(hm:m≠0):
  lf P (execOp σ o)=some (.value (.int k (n.tmod m))):=by
 have hi:Op.intDiv .rem k n m=pure (.int k (n.tmod m)):=by unfold Op.intDiv;rw[gP hm]
 have hg:eqGuard .rem t x y (σ x) (σ y)=pure ():=rfl
 have hb:binOp .rem t (σ x) (σ y)=pure (.int k (n.tmod m)):=by
  rw[hx,hy];simp only[binOp,hi];exact gP ah
 unfold execOp;rw[ho];dsimp only;rw[hg,hb]
 rfl
def We{n:Int}(h:0<=n)(h':n<18446744073709551616):IntKind.u64.wrap n=n:=by
 simp only[IntKind.wrap,IntKind.signed,IntKind.bits,Bool.false_and,sJ,if_false];omega
abbrev eP(c:fq):List Int:=ku c.zL c.zL.length
def nh(c:fq)(n:Int):Int×Int:=if (eP c).length=0 then (0,5) else (((eP c)[(n%(eP c).length).toNat]?).getD 0,0)
def R2(c:fq)(n:Int)(hn:u64 n)(hl:c.zL.length<1000000000000)(hh:(eP c).length<=c.zL.length):th 262 [] [Cc c,U n] (.eR [I (nh c n).1,I (nh c n).2]) []:=by
 have ml:((eP c).map encI).length=(eP c).length:=gO ..;refine ab func262 ?_;refine af (HV c hl) ?_;rw[ml];refine⟨λh0=>?_,λh0=>?_⟩
 .unfold nh;have h0:=gQ h0;rw[gS an];exact uI
 .unfold nh;have h0:=gR h0;rw[gP an];refine dd ?_
  have hw:IntKind.u64.wrap ((((eP c).map encI).length:Nat):Int)≠0:=by
   have hk:=ml;have:IntKind.u64.wrap ((((eP c).map encI).length:Nat):Int)=(eP c).length:=cM
   omega
  split
  rotate_left
  .rename_i hno;exact(hno _ (jV V V V hw)).elim
  .rename_i v e;have e':=e.symm.trans (jV V V V hw);cases e'
   refine dd ?_;have ew:IntKind.u64.wrap ((((eP c).map encI).length:Nat):Int)=(eP c).length:=cM
   have et:n.tmod (IntKind.u64.wrap ((((eP c).map encI).length:Nat):Int))=n%(eP c).length:=by rw[ew];exact so hn.1
   have b0:0<=n%((eP c).length:Int):=sB _ h0;have b1:n%((eP c).length:Int)<(eP c).length:=ss _ an;have hi:(n%((eP c).length:Int)).toNat<(eP c).length:=an
   have gx:((eP c).map encI)[(n.tmod (IntKind.u64.wrap ((((eP c).map encI).length:Nat):Int))).toNat]?=some (encI ((eP c)[(n%((eP c).length:Int)).toNat]'hi)):=by rw[et,gM,gL hi];rfl
   refine⟨by show 0<=n.tmod (IntKind.u64.wrap ((((eP c).map encI).length:Nat):Int));rw[et];exact b0,_,gx,dd ?_⟩;rw[gL hi];exact uI
def Ra(a x b y:Int):th 266 [] [I a,I x,I b,I y] (I (if y<x then b else a)) []:=by
 refine ab func266 ?_;refine⟨λh=>?_,λh=>?_⟩
 .rw[gS (gQ h)];exact dg
 .rw[gP (gR h)];exact dg
def Nd(w:Wor)(m:eQ)(v:eX)(g:Gr)(e:En)(hv:B0 w m v g)(o0:0<=m.other)(ho:g.ends[m.other.toNat]?=some e):
  th 214 [oW w,oM m] [.agg tg] (Ce (fD m v 1 7 e.zo)) [oW w,oM ({m with end_:=if e.zo<m.i then m.other else m.end_,pc:=9})]:=by
 have er:(g.ends.map zu)[m.other.toNat]?=some (zu e):=by rw[gM,ho];rfl
 refine aa func214 ?_;refine .inl ⟨⟨true,[],[],[1]⟩,ak,uH ?_⟩;refine ae [0,1] (I9 w m v g hv) ?_;refine tc ?_
 (refine⟨o0,_,er,dd ?_⟩)
 refine .inl ⟨⟨true,[],[],[15]⟩,ak,uH ?_⟩;refine af (Ra m.end_ m.i m.other e.zo) ?_;refine tc ?_
 refine ae [0,1] (k8 w {m with end_:=if e.zo<m.i then m.other else m.end_,pc:=9} v ⟨hv.v0,hv.at_⟩ 1 7 e.zo) ?_;exact cX
structure mq(w:Wor)(m:eQ)(v0:eX)(g0:Gr):Prop where
 pv:0<=m.version
 lv:m.version.toNat<w.zd.length
 pg:0<=m.zp
 lg:m.zp.toNat<v0.zg.length
 pe:0<=m.end_
 le:m.end_.toNat<g0.ends.length
def fF.ln{v0:eX}{g0:Gr}{e0:En}(h:fF w m v0 g0 e0):mq w m v0 g0:=⟨h.v0,(gN.1 h.at_).1,h.g0,(gN.1 h.fV).1,h.e0,(gN.1 h.ig).1⟩
def DL(sel:List Nat)(Kx:zq){K H0 H':zq}{args:List C}{rx:C}(h:zb P f H0 args0 r H')(hR:qQ H'=true)
 (hH:xv sel K=H0)(ha:args.map (jK sel 9)=args0)(qc:sel.all (λid=>Nat.blt id K.length)=true)(fN:yk sel=true)(fI:qQ K=true){k:C->zq->Prop}
 (hp:wz sel K H'=Kx)(hr:yG (q6 sel K.length) 9 r=rx)(hk:k rx Kx):∃R,qz P f K args R/\∀r H2,R r H2->k r H2:=
 ⟨λx X=>x=rx/\X=Kx,(h.part sel hR hH ha qc fN fI).fM ⟨hr,hp⟩,by rintro _ _ ⟨rfl,rfl⟩;exact hk⟩
def EX(w:Wor)(m:eQ)(v0:eX)(g0:Gr)(e0:En)(hv:mq w m v0 g0):th 261 (hE w m m v0 g0 e0 g0.zC e0.head e0.zo []) [.agg tg] (.ref 3 [] 2 m.zp.toNat 0) (hE w m m v0 g0 e0 g0.zC e0.head e0.zo []):=by
 have h0:=hv.pv;have g0':=hv.pg;have lv:m.version.toNat<w.zd.length:=hv.lv;have lg:m.zp.toNat<v0.zg.length:=hv.lg;have lowV:∀r∈fy w m v0 3,∀c∈r,qE 6 9 c=true:=zF (enc:=zt) (λ_=>V) V _ _;have lowG:∀r∈fp m v0 g0 g0.zC 4,∀c∈r,qE 6 9 c=true:=zF (enc:=zy) (λ_=>V) V _ _;have lowE:∀r∈fk m g0 e0 e0.head 5 e0.zo,∀c∈r,qE 6 9 c=true:=zF (enc:=zu) (λ_=>V) V _ _;have e1:0+m.version.toNat=m.version.toNat:=gZ _;have e2:0+m.zp.toNat=m.zp.toNat:=gZ _;have gv:(fy w m v0 3)[m.version.toNat]?=some (fl 3 v0):=gX (ai lv);refine aa func261 ?_;refine uE ?_;refine⟨h0,lv,dd ?_⟩;rw[e1];refine⟨_,gv,hO,dd ?_⟩;refine⟨g0',lg,dd ?_⟩;rw[e2];exact c8
def vF(w:Wor)(m:eQ)(v0:eX)(g0:Gr)(e0:En)(hv:mq w m v0 g0):th 265 (hE w m m v0 g0 e0 g0.zC e0.head e0.zo []) [.agg tg] (.ref 4 [] 3 m.end_.toNat 0) (hE w m m v0 g0 e0 g0.zC e0.head e0.zo []):=by
 have h0:=hv.pe;have lg:m.zp.toNat<v0.zg.length:=hv.lg;have le:m.end_.toNat<g0.ends.length:=hv.le;have ownV:∀r∈fy w m v0 3,∀c∈r,zG c=true:=zF (enc:=zt) (λ_=>V) V _ _;have ownG:∀r∈fp m v0 g0 g0.zC 4,∀c∈r,zG c=true:=zF (enc:=zy) (λ_=>V) V _ _;have ownE:∀r∈fk m g0 e0 e0.head 5 e0.zo,∀c∈r,zG c=true:=zF (enc:=zu) (λ_=>V) V _ _;have lowV:∀r∈fy w m v0 3,∀c∈r,qE 6 9 c=true:=zF (enc:=zt) (λ_=>V) V _ _;have lowG:∀r∈fp m v0 g0 g0.zC 4,∀c∈r,qE 6 9 c=true:=zF (enc:=zy) (λ_=>V) V _ _;have lowE:∀r∈fk m g0 e0 e0.head 5 e0.zo,∀c∈r,qE 6 9 c=true:=zF (enc:=zu) (λ_=>V) V _ _;have e2:0+m.end_.toNat=m.end_.toNat:=gZ _;have gg:(fp m v0 g0 g0.zC 4)[m.zp.toNat]?=some (fi 4 g0):=gX (ai lg);refine aa func265 ?_;refine .inl ⟨⟨true,[],[],[1]⟩,ak,uH ?_⟩;refine zW [0,1,2,3,4,5] (hE w m m v0 g0 e0 g0.zC e0.head e0.zo [⟨1,229,2,[tg],0⟩]) (rx:=.ref 3 [] 2 m.zp.toNat 0) (EX w m v0 g0 e0 hv) (ze V (ze V (ze (zf ownV) (ze (zf ownG) (ze (zf ownE) V))))) uR V V V (ze V (ze V (ze (zf ownV) (ze (zf ownG) (ze (zf ownE) V))))) uS V (dd ?_);refine⟨_,gg,mB,dd ?_⟩;refine⟨h0,le,dd ?_⟩;rw[e2];exact c8
def SI(w:Wor)(m:eQ)(v0:eX)(g0:Gr)(e0:En)(hv:mq w m v0 g0)(a b c:Int):th 264 (hE w m m v0 g0 e0 g0.zC e0.head e0.zo []) [.agg tg,I a,I b,I c] (Ce (fD m v0 a b c)) (hE w m m v0 g0 e0 g0.zC e0.head e0.zo []):=by
 have h0:=hv.pv;have lv:m.version.toNat<w.zd.length:=hv.lv;have e1:0+m.version.toNat=m.version.toNat:=gZ _
 clear hv
 obtain⟨sn,gs,fr⟩:=v0;cases fr
 all_goals
  have ownV:∀b,∀r∈(w.zd.map zt).set m.version.toNat (qP sn++[C.sl 3 [] 2 0 gs.length false,Bo b]),∀c∈r,zG c=true:=λb=>zF (enc:=zt) (λ_=>V) V _ _
  have ownG:∀r∈(gs.map zy).set m.zp.toNat (fi 4 g0),∀c∈r,zG c=true:=zF (enc:=zy) (λ_=>V) V _ _;have ownE:∀r∈fk m g0 e0 e0.head 5 e0.zo,∀c∈r,zG c=true:=zF (enc:=zu) (λ_=>V) V _ _;have lowV:∀b,∀r∈(w.zd.map zt).set m.version.toNat (qP sn++[C.sl 3 [] 2 0 gs.length false,Bo b]),∀c∈r,qE 6 9 c=true:=λb=>zF (enc:=zt) (λ_=>V) V _ _
  have gv:∀b,((w.zd.map zt).set m.version.toNat (qP sn++[C.sl 3 [] 2 0 gs.length false,Bo b]))[m.version.toNat]?=some (qP sn++[C.sl 3 [] 2 0 gs.length false,Bo b]):=λb=>gX (ai lv)
  have lowG:∀r∈(gs.map zy).set m.zp.toNat (fi 4 g0),∀c∈r,qE 6 9 c=true:=zF (enc:=zy) (λ_=>V) V _ _;have lowE:∀r∈fk m g0 e0 e0.head 5 e0.zo,∀c∈r,qE 6 9 c=true:=zF (enc:=zu) (λ_=>V) V _ _;refine aa func264 ?_;refine zW [1] [⟨1,38,8,[(fL w 2)],0⟩,oM m,⟨1,0,5,(w.zd.map zt).set m.version.toNat (qP sn++[C.sl 3 [] 2 0 gs.length false,Bo _]),0⟩,⟨1,0,2,(gs.map zy).set m.zp.toNat (fi 4 g0),0⟩,⟨1,0,3,fk m g0 e0 e0.head 5 e0.zo,0⟩,oN e0,⟨1,229,2,[tg],0⟩,oE zY] (rx:=Ce (fc m a b c)) (ji m a b c) V V V V V (ze V (ze V (ze (zf (ownV _)) (ze (zf ownG) (ze (zf ownE) V))))) V V (dd ?_);refine .inl ⟨⟨false,[6,9,11,14,17],[0,1,2,6],[]⟩,ak,uH ?_⟩;refine⟨h0,lv,dd ?_⟩;rw[e1];refine⟨_,gv _,(by show 4+1<=5;decide),dd ?_⟩
  first|((refine ya (dd ?_)))|((refine yb (dd ?_)))
  refine tc ?_
  exact⟨.inl V,_,_,.refl _,rfl,zk.jq 6 ta V V V (zS V (zS V (zS (qi (lowV _)) (zS (qi lowG) (zS (qi lowE) V))))) V⟩
abbrev MC(e:En)(n:Int):En:={e with zo:=IntKind.i64.wrap (e.zo+n)}
def O9(w:Wor)(m:eQ)(v0:eX)(g0:Gr)(e0:En)(hv:mq w m v0 g0):th 218 (hE w m m v0 g0 e0 g0.zC e0.head e0.zo []) [.agg tg] (Ce (fD m v0 3 7 (IntKind.i64.wrap (e0.zo+1))))
  [⟨1,38,8,[(fL w 2)],0⟩,oM ({m with answer:=⟨1,m.version,m.zp,m.end_,m.slot,m.listen,0,⟨0,0,0,0,0,0⟩⟩,pc:=20}),⟨1,0,5,fy w m v0 3,0⟩,⟨1,0,2,fp m v0 g0 g0.zC 4,0⟩,⟨1,0,3,(g0.ends.map zu).set m.end_.toNat [U e0.head,C.sl 5 [] 1 0 e0.next.length false,I (IntKind.i64.wrap (e0.zo+1))],0⟩,oN e0]:=by
 have le:=hv.le;have ownV:∀r∈fy w m v0 3,∀c∈r,zG c=true:=zF (enc:=zt) (λ_=>V) V _ _;have ownG:∀r∈fp m v0 g0 g0.zC 4,∀c∈r,zG c=true:=zF (enc:=zy) (λ_=>V) V _ _;have ownE:∀r∈fk m g0 e0 e0.head 5 e0.zo,∀c∈r,zG c=true:=zF (enc:=zu) (λ_=>V) V _ _;have ge:(fk m g0 e0 e0.head 5 e0.zo)[m.end_.toNat]?=some (fh 5 e0):=gX (ai le);refine aa func218 ?_;refine zbl ?_;refine⟨_,ge,mF,dd ?_⟩;refine⟨_,ge,rfl,dd ?_⟩;rw[pL];refine uE ?_;have ownE2:∀r∈(g0.ends.map zu).set m.end_.toNat [U e0.head,C.sl 5 [] 1 0 e0.next.length false,I (IntKind.i64.wrap (e0.zo+1))],∀c∈r,zG c=true:=zF (enc:=zu) (λ_=>V) V _ _;refine .inl ⟨⟨true,[],[],[2,6]⟩,ak,uH ?_⟩;have hv2:mq w {m with answer:=⟨1,m.version,m.zp,m.end_,m.slot,m.listen,0,⟨0,0,0,0,0,0⟩⟩,pc:=20} v0 g0:=⟨hv.pv,hv.lv,hv.pg,hv.lg,hv.pe,hv.le⟩;have ge2:((g0.ends.map zu).set m.end_.toNat [U e0.head,C.sl 5 [] 1 0 e0.next.length false,I (IntKind.i64.wrap (e0.zo+1))])[m.end_.toNat]?=some [U e0.head,C.sl 5 [] 1 0 e0.next.length false,I (IntKind.i64.wrap (e0.zo+1))]:=gX (ai le);have lowV:∀r∈fy w m v0 3,∀c∈r,qE 6 9 c=true:=zF (enc:=zt) (λ_=>V) V _ _;have lowG:∀r∈fp m v0 g0 g0.zC 4,∀c∈r,qE 6 9 c=true:=zF (enc:=zy) (λ_=>V) V _ _;have lowE:∀r∈(g0.ends.map zu).set m.end_.toNat [U e0.head,C.sl 5 [] 1 0 e0.next.length false,I (IntKind.i64.wrap (e0.zo+1))],∀c∈r,qE 6 9 c=true:=zF (enc:=zu) (λ_=>V) V _ _;refine zW [0,1,2,3,4,5] [⟨1,38,8,[(fL w 2)],0⟩,oM ({m with answer:=⟨1,m.version,m.zp,m.end_,m.slot,m.listen,0,⟨0,0,0,0,0,0⟩⟩,pc:=20}),⟨1,0,5,fy w m v0 3,0⟩,⟨1,0,2,fp m v0 g0 g0.zC 4,0⟩,⟨1,0,3,(g0.ends.map zu).set m.end_.toNat [U e0.head,C.sl 5 [] 1 0 e0.next.length false,I (IntKind.i64.wrap (e0.zo+1))],0⟩,oN e0,⟨1,229,2,[tg],0⟩,oE zY] (rx:=.ref 4 [] 3 m.end_.toNat 0) (vF w _ v0 g0 (MC e0 1) hv2) (ze V (ze V (ze (zf ownV) (ze (zf ownG) (ze (zf ownE2) V))))) uR V V V (ze V (ze V (ze (zf ownV) (ze (zf ownG) (ze (zf ownE2) V))))) uS V (dd ?_);refine⟨_,ge2,mF,dd ?_⟩;refine zW [0,1,2,3,4,5] [⟨1,38,8,[(fL w 2)],0⟩,oM ({m with answer:=⟨1,m.version,m.zp,m.end_,m.slot,m.listen,0,⟨0,0,0,0,0,0⟩⟩,pc:=20}),⟨1,0,5,fy w m v0 3,0⟩,⟨1,0,2,fp m v0 g0 g0.zC 4,0⟩,⟨1,0,3,(g0.ends.map zu).set m.end_.toNat [U e0.head,C.sl 5 [] 1 0 e0.next.length false,I (IntKind.i64.wrap (e0.zo+1))],0⟩,oN e0,⟨1,229,2,[tg],0⟩,oE zY] (rx:=Ce (fD m v0 3 7 (IntKind.i64.wrap (e0.zo+1)))) (SI w _ v0 g0 (MC e0 1) hv2 3 7 (IntKind.i64.wrap (e0.zo+1))) (ze V (ze V (ze (zf ownV) (ze (zf ownG) (ze (zf ownE2) V))))) uR V V V (ze V (ze V (ze (zf ownV) (ze (zf ownG) (ze (zf ownE2) V))))) uS V (dd ?_);exact c8
end Go.Wor
