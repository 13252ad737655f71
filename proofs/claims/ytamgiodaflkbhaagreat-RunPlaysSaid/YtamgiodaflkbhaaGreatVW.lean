import Derived.Test.YtamgiodaflkbhaaGreatVV
set_option linter.all false
set_option maxRecDepth 100000
set_option maxHeartbeats 4000000
namespace Go.Wor
open Go.Ab Go.Proofs Tryz Go.Hy Go.Gat Go.Nam Go.Hos Go.Con Go.Sna
variable{w:Wor}{m:fx}{v:fC}{P:Program}{f:FuncId}{args0:List C}{r:C}{g:Gr}
abbrev fI(m:fx)(a b c:Int):fF:=⟨m.zm,0,a,b, -1,false,c,false,false,false,kG⟩
abbrev ib(m:fx)(v:fC)(a b c:Int):fF:=⟨m.zm,0,a,b,m.version,v.qH,c,false,false,false,kG⟩
def jn(m:fx)(a b c:Int):th 258 [oM m] [.agg [.za,.ref 0 [] 44 0 0],I a,I b,I c] (Ce (fI m a b c)) [oM m]:=by
 refine aa func258 ?_;exact dF
abbrev wW(n:Int):fM:=⟨n,0,0,0,0,0,0,⟨0,0,0,0,0,0⟩⟩
abbrev kB(m:fx)(n:Int):fx:={m with answer:=wW n,pc:=20}
def xU(m:fx)(n:Int):th 259 [oM m] [.agg [.za,.ref 0 [] 44 0 0],I n] (.fy []) [oM (kB m n)]:=by
 refine aa func259 ?_;refine .inl ⟨⟨false,[3],[1],[]⟩,ak,uH ?_⟩;refine tc ?_
 exact⟨.inr V,_,_,.refl _,rfl,cE 1⟩
structure mK(w:Wor)(m:fx)(v:fC):Prop where
 v0:0<=m.version
 at_:w.zd[m.version.toNat]?=some v
def mK.row(h:mK w m v):(w.zd.map zt)[m.version.toNat]?=some (zt v):=by rw[pw,h.at_];rfl
def wy(w:Wor)(m:fx)(v:fC)(hv:mK w m v)(a b c:Int):th 264 [oW w,oM m] [.agg tg,I a,I b,I c] (Ce (ib m v a b c)) [oW w,oM m]:=by
 have h0:=hv.v0;have hr:=hv.row;obtain⟨sn,gs,fr⟩:=v;cases fr
 all_goals
  refine aa func264 ?_;refine ae [1] (jn m a b c) ?_;refine .inl ⟨⟨false,[6,9,11,14,17],[0,1,2],[]⟩,ak,uH ?_⟩;(refine⟨h0,_,hr,dd ?_⟩)
  first|((refine ya (dd ?_)))|((refine yb (dd ?_)))
  refine tc ?_
  exact dk
def Es(sel:List Nat){K H0 H':zq}{args:List C}(h:zb P f H0 args0 r H')(hR:qL H'=true)
 (hH:xC sel K=H0)(ha:args.map (jQ sel 9)=args0)(qd:sel.all (λid=>Nat.blt id K.length)=true)(iv:yt sel=true)(ik:qL K=true){k:C->zq->Prop}
 (hk:AX (wP sel K H') λX=>qM (yT (q8 sel K.length) 9 r) λc=>k c X):∃R',qC P f K args R'/\∀r H2,R' r H2->k r H2:=
 Kg sel (h.iu (R:=λx X=>x=r/\X=H') ⟨rfl,rfl⟩) (λ_ _ e=>e.2 ▸ hR) hH ha qd iv ik (by rintro _ _ ⟨rfl,rfl⟩;exact hk)
structure CI(w:Wor)(m:fx)(v:fC)(g:Gr):Prop extends mK w m v where
 g0:0<=m.zp
 iC:v.zg[m.zp.toNat]?=some g
def CI.oT(h:CI w m v g):(v.zg.map zy)[m.zp.toNat]?=some (zy g):=by rw[pw,h.iC];rfl
structure ig(w:Wor)(m:fx)(v:fC)(g:Gr)(e:En):Prop extends CI w m v g where
 e0:0<=m.end_
 iM:g.ends[m.end_.toNat]?=some e
def ig.AF{e:En}(h:ig w m v g e):(g.ends.map zx)[m.end_.toNat]?=some (zx e):=by rw[pw,h.iM];rfl
def JU(w:Wor)(m:fx)(v:fC)(g:Gr)(hv:CI w m v g):th 261 [oW w,oM m] [.agg tg] (.jR (zy g)) [oW w,oM m]:=by
 have h0:=hv.v0;have hr:=hv.row;have g0:=hv.g0;have gr:=hv.oT;refine aa func261 ?_;refine uE ?_;(refine⟨h0,_,hr,dd ?_⟩)
 (refine⟨g0,_,gr,dd ?_⟩)
 exact dk
def wj(w:Wor)(m:fx)(v:fC)(g:Gr)(e:En)(hv:ig w m v g e):th 265 [oW w,oM m] [.agg tg] (.jR (zx e)) [oW w,oM m]:=by
 have e0:=hv.e0;have er:=hv.AF;refine aa func265 ?_;refine .inl ⟨⟨true,[],[],[1]⟩,ak,uH ?_⟩;refine ae [0,1] (JU w m v g hv.toCI) ?_;refine tc ?_
 (refine⟨e0,_,er,dd ?_⟩)
 exact dk
def kp(w:Wor)(m:fx)(v:fC)(c:fV)(hv:mK w m v)(c0:0<=m.zp)(hc:v.snap.zj[m.zp.toNat]?=some c):th 263 [oW w,oM m] [.agg tg] (Cc c) [oW w,oM m]:=by
 have h0:=hv.v0;have hr:=hv.row;have cr:(v.snap.zj.map jx)[m.zp.toNat]?=some (jx c):=by rw[pw,hc];rfl
 refine aa func263 ?_;refine uE ?_;(refine⟨h0,_,hr,dd ?_⟩)
 (refine⟨c0,_,cr,dd ?_⟩)
 exact dk
def On(w:Wor)(m:fx)(v:fC)(g:Gr)(e:En)(hv:ig w m v g e){x:Int}(s0:0<=m.slot)(hx:e.next[m.slot.toNat]?=some x):
  th 216 [oW w,oM m] [.agg tg] (Ce (ib m v 1 9 x)) [oW w,oM ({m with link:=x,pc:=11})]:=by
 have er:(e.next.map encI)[m.slot.toNat]?=some (encI x):=by rw[pw,hx];rfl
 refine aa func216 ?_;refine .inl ⟨⟨true,[3],[2],[5]⟩,ak,uH ?_⟩;refine ae [0,1] (wj w m v g e hv) ?_;refine tc ?_
 (refine⟨s0,_,er,dd ?_⟩)
 refine tc ?_
 refine zaY ?_;refine ae [0,1] (wy w {m with link:=x,pc:=11} v ⟨hv.v0,hv.at_⟩ 1 9 x) ?_;exact dk
def NT(w:Wor)(m:fx)(v:fC)(g:Gr)(e:En)(hv:ig w m v g e):
  th 213 [oW w,oM m] [.agg tg] (Ce (ib m v 1 7 e.zo)) [oW w,oM ({m with i:=e.zo,pc:=8})]:=by
 refine aa func213 ?_;refine .inl ⟨⟨true,[3],[2],[5]⟩,ak,uH ?_⟩;refine ae [0,1] (wj w m v g e hv) ?_;refine tc ?_
 refine tc ?_
 refine zaY ?_;refine ae [0,1] (wy w {m with i:=e.zo,pc:=8} v ⟨hv.v0,hv.at_⟩ 1 7 e.zo) ?_;exact dk
def Om(w:Wor)(m:fx)(v:fC)(g:Gr)(e:En)(hv:ig w m v g e)(he:u64 e.head)(hi:0<=e.head%4294967296-1/\e.head%4294967296-1<e.next.length):
  th 215 [oW w,oM m] [.agg tg] (Ce (ib m v 1 8 (e.head%4294967296-1))) [oW w,oM ({m with word:=e.head,slot:=e.head%4294967296-1,pc:=10})]:=by
 have hi1:=hi.1;have hi2:=hi.2;have ml:(e.next.map encI).length=e.next.length:=pz ..;refine aa func215 ?_;refine Es [0,1] (wj w m v g e hv) V V V V V V (dd ?_);refine af (Slp.qI e.head he) ?_;refine za9 ?_;refine Es [0,1] (wj w {m with word:=e.head} v g e ⟨⟨⟨hv.v0,hv.at_⟩,hv.g0,hv.iC⟩,hv.e0,hv.iM⟩) V V V V V V (dd ?_);rw[ml];refine za9 ?_;refine ae [0,1] (wy w {m with word:=e.head,slot:=e.head%4294967296-1,pc:=10} v ⟨hv.v0,hv.at_⟩ 1 8 (e.head%4294967296-1)) ?_;exact dk
def QD(w:Wor)(m:fx)(x:fO)(h0:0<=m.listen)(hx:w.zc[m.listen.toNat]?=some x):
  th 210 [⟨1,38,8,[iU 2 w],0⟩,oM m,⟨2,98,4,(w.zc).map zT,0⟩] [.agg tg] (Ce (fI m 3 5 (IntKind.i64.wrap (x.zo+1))))
   [⟨1,38,8,[iU 2 w],0⟩,oM ({m with pc:=5}),⟨2,98,4,(w.zc.set m.listen.toNat {x with zo:=IntKind.i64.wrap (x.zo+1)}).map zT,0⟩]:=by
 have e1:0+m.listen.toNat=m.listen.toNat:=pK _;have ft:m.listen.toNat<w.zc.length:=(px.1 hx).1;have gx:(w.zc.map zT)[m.listen.toNat]?=some (zT x):=by rw[pw,hx];rfl
 refine aa func210 ?_;have hst:(w.zc.map zT).set m.listen.toNat [Tx x.name,Bo x.drain,I (IntKind.i64.wrap (x.zo+1)),Bo x.closed]=(w.zc.set m.listen.toNat {x with zo:=IntKind.i64.wrap (x.zo+1)}).map zT:=bO
 have gx2:((w.zc.set m.listen.toNat {x with zo:=IntKind.i64.wrap (x.zo+1)}).map zT)[m.listen.toNat]?=some (zT {x with zo:=IntKind.i64.wrap (x.zo+1)}):=by rw[pw,pH ft];rfl
 refine uE ?_;refine⟨h0,ft,dd ?_⟩;rw[e1];refine⟨_,gx,tZ,dd ?_⟩;refine⟨_,gx,rfl,dd ?_⟩;rw[hst];refine zaY ?_;refine⟨_,gx2,tZ,dd ?_⟩;refine ae [1] (jn {m with pc:=5} 3 5 (IntKind.i64.wrap (x.zo+1))) ?_;exact⟨.inl V,_,_,.refl _,rfl,cE 3⟩
def QM(w:Wor)(m:fx)(x:fO)(h0:0<=m.listen)(hx:w.zc[m.listen.toNat]?=some x):
  th 221 [⟨1,38,8,[iU 2 w],0⟩,oM m,⟨2,98,4,(w.zc).map zT,0⟩] [.agg tg] (Ce (fI m 3 5 (IntKind.i64.wrap (x.zo-1))))
   [⟨1,38,8,[iU 2 w],0⟩,oM ({m with pc:=23}),⟨2,98,4,(w.zc.set m.listen.toNat {x with zo:=IntKind.i64.wrap (x.zo-1)}).map zT,0⟩]:=by
 have e1:0+m.listen.toNat=m.listen.toNat:=pK _;have ft:m.listen.toNat<w.zc.length:=(px.1 hx).1;have gx:(w.zc.map zT)[m.listen.toNat]?=some (zT x):=by rw[pw,hx];rfl
 refine aa func221 ?_;have hst:(w.zc.map zT).set m.listen.toNat [Tx x.name,Bo x.drain,I (IntKind.i64.wrap (x.zo-1)),Bo x.closed]=(w.zc.set m.listen.toNat {x with zo:=IntKind.i64.wrap (x.zo-1)}).map zT:=bO
 have gx2:((w.zc.set m.listen.toNat {x with zo:=IntKind.i64.wrap (x.zo-1)}).map zT)[m.listen.toNat]?=some (zT {x with zo:=IntKind.i64.wrap (x.zo-1)}):=by rw[pw,pH ft];rfl
 refine uE ?_;refine⟨h0,ft,dd ?_⟩;rw[e1];refine⟨_,gx,tZ,dd ?_⟩;refine⟨_,gx,rfl,dd ?_⟩;rw[hst];refine zaY ?_;refine⟨_,gx2,tZ,dd ?_⟩;refine ae [1] (jn {m with pc:=23} 3 5 (IntKind.i64.wrap (x.zo-1))) ?_;exact⟨.inl V,_,_,.refl _,rfl,cE 3⟩
def zU(sel:List Nat)(Kx:zq){K H0 H':zq}{args:List C}{rx:C}(h:zb P f H0 args0 r H')(hR:qL H'=true)
 (hH:xC sel K=H0)(ha:args.map (jQ sel 9)=args0)(qd:sel.all (λid=>Nat.blt id K.length)=true)(iv:yt sel=true)(ik:qL K=true){k:C->zq->Prop}
 (hp:wP sel K H'=Kx)(hr:yT (q8 sel K.length) 9 r=rx)(hk:okB rx λc=>k c Kx):∃r H2,zb P f K args r H2/\okB r λc=>k c H2:=
 ⟨_,_,h.part sel hR hH ha qd iv ik,by rw[hp,hr];exact hk⟩
def zR{n:Nat}{x:Ob}{H:zq}(h1:qj n [x]=true)(h2:qj n H=true):qj n (x::H)=true:=by
 unfold qj at *;simp only[sZ,ed,ux] at *;rw[h1,h2];rfl
def qm{n ty sz fz:Nat}{rows:List (List C)}(h:∀r∈rows,∀c∈r,qE n 9 c=true):qj n [⟨1,ty,sz,rows,fz⟩]=true:=by
 unfold qj;simp only[sZ,ed,ux];have:(rows.all λr=>r.all (qE n 9))=true:=pG.2 λr hr=>pG.2 λc hc=>h r hr c hc
 rw[this];simp
def Ou(w:Wor)(m:fx)(r0:List Int)(x:Int)(h0:0<=m.zm)(hr:w.counts[m.zm.toNat]?=some r0)(hx:r0[0]?=some x):
  th 220 [⟨1,38,8,[iO 2 w],0⟩,oM m,⟨1,0,1,(w.counts.map zA).set m.zm.toNat [C.sl 3 [] 1 0 r0.length false],0⟩,⟨2,52,1,(r0).map qD,0⟩] [.agg tg] (Ce (fI m 3 10 0))
   [⟨1,38,8,[iO 2 w],0⟩,oM ({m with pc:=if m.answer.kind=1\/m.listen<0 then 23 else 22}),⟨1,0,1,(w.counts.map zA).set m.zm.toNat [C.sl 3 [] 1 0 r0.length false],0⟩,⟨2,52,1,(r0.set 0 (IntKind.u64.wrap (x+1))).map qD,0⟩]:=by
 have e1:0+m.zm.toNat=m.zm.toNat:=pK _;have ft:m.zm.toNat<w.counts.length:=(px.1 hr).1;have gt:((w.counts.map zA).set m.zm.toNat [C.sl 3 [] 1 0 r0.length false])[m.zm.toNat]?=some [C.sl 3 [] 1 0 r0.length false]:=pH mF;have gx:(r0.map qD)[0]?=some (qD x):=by rw[pw,hx];rfl
 have hl0:0<r0.length:=(px.1 hx).1;have hst:(r0.map qD).set 0 [U (IntKind.u64.wrap (x+1))]=(r0.set 0 (IntKind.u64.wrap (x+1))).map qD:=bO
 have own:∀r∈(w.counts.map zA).set m.zm.toNat [C.sl 3 [] 1 0 r0.length false],∀c∈r,zF c=true:=zE (enc:=zA) (λ_=>V) V _ _;have low:∀r∈(w.counts.map zA).set m.zm.toNat [C.sl 3 [] 1 0 r0.length false],∀c∈r,qE 4 9 c=true:=zE (enc:=zA) (λ_=>V) V _ _;refine aa func220 ?_;refine uE ?_;refine⟨h0,ft,dd ?_⟩;rw[e1];refine⟨_,gt,tH,dd ?_⟩;refine⟨aj,hl0,dd ?_⟩;refine⟨_,gx,tH,dd ?_⟩;refine⟨aj,hl0,dd ?_⟩;refine⟨_,gx,rfl,dd ?_⟩;have hst2:(r0.map qD).set (0+Int.toNat 0) [U (IntKind.u64.wrap (x+1))]=(r0.set 0 (IntKind.u64.wrap (x+1))).map qD:=hst;rw[hst2];refine⟨λh1=>?_,λh1=>?_⟩
 .rw[pD (.inl (pC h1))];refine zac ?_
  exact zbc
 .refine dd ?_;refine⟨λh2=>?_,λh2=>?_⟩
  .rw[pD (.inr (pC h2))];refine zac ?_
   exact zbc
  .rw[pA (λh=>h.elim (pB h1) (pB h2))];refine zac ?_
   refine zU [1] [⟨1,38,8,[iO 2 w],0⟩,oM ({m with pc:=22}),⟨1,0,1,(w.counts.map zA).set m.zm.toNat [C.sl 3 [] 1 0 r0.length false],0⟩,⟨2,52,1,(r0.set 0 (IntKind.u64.wrap (x+1))).map qD,0⟩,⟨1,229,2,[tg],0⟩,oE zW] (rx:=Ce (fI {m with pc:=22} 3 10 0)) (jn {m with pc:=22} 3 10 0) V V V V V (ze V (ze V (ze (zf own) V))) V V (dd ?_);exact dD
def wM(n:Int):Int:=if n<1\/5<n then 0 else n
def Oe(w:Wor)(m:fx)(r0:List Int)(x k:Int)(hk:wM m.answer.kind=k)(h0:0<=m.zm)(hr:w.counts[m.zm.toNat]?=some r0)(hx:r0[k.toNat]?=some x):
  th 219 [⟨1,38,8,[iO 2 w],0⟩,oM m,⟨1,0,1,(w.counts.map zA).set m.zm.toNat [C.sl 3 [] 1 0 r0.length false],0⟩,⟨2,52,1,(r0).map qD,0⟩] [.agg tg] (Ce (fI m 3 10 k))
   [⟨1,38,8,[iO 2 w],0⟩,oM ({m with pc:=21}),⟨1,0,1,(w.counts.map zA).set m.zm.toNat [C.sl 3 [] 1 0 r0.length false],0⟩,⟨2,52,1,(r0.set k.toNat (IntKind.u64.wrap (x+1))).map qD,0⟩]:=by
 have e1:0+m.zm.toNat=m.zm.toNat:=pK _;have k0:0<=k:=by rw[<-hk];unfold wM;split <;> omega
 have k1:k.toNat<r0.length:=(px.1 hx).1;have ft:m.zm.toNat<w.counts.length:=(px.1 hr).1;have gt:((w.counts.map zA).set m.zm.toNat [C.sl 3 [] 1 0 r0.length false])[m.zm.toNat]?=some [C.sl 3 [] 1 0 r0.length false]:=pH mF;have gx:(r0.map qD)[0+k.toNat]?=some (qD x):=by rw[pK,pw,hx];rfl
 have hst:(r0.map qD).set (0+k.toNat) [U (IntKind.u64.wrap (x+1))]=(r0.set k.toNat (IntKind.u64.wrap (x+1))).map qD:=by rw[pK,sA];rfl
 have own:∀r∈(w.counts.map zA).set m.zm.toNat [C.sl 3 [] 1 0 r0.length false],∀c∈r,zF c=true:=zE (enc:=zA) (λ_=>V) V _ _;have low:∀r∈(w.counts.map zA).set m.zm.toNat [C.sl 3 [] 1 0 r0.length false],∀c∈r,qE 4 9 c=true:=zE (enc:=zA) (λ_=>V) V _ _;refine aa func219 ?_;refine⟨λh1=>?_,λh1=>?_⟩
 .obtain rfl:k=0:=by rw[<-hk];unfold wM;rw[pD (.inl (pC h1))]
  refine zac ?_
  refine uE ?_;exact zaX
 .refine zac ?_
  refine⟨λh2=>?_,λh2=>?_⟩
  .obtain rfl:k=0:=by rw[<-hk];unfold wM;rw[pD (.inr (pC h2))]
   refine zac ?_
   refine uE ?_;exact zaX
  .obtain rfl:k=m.answer.kind:=by rw[<-hk];unfold wM;rw[pA (λh=>h.elim (pB h1) (pB h2))]
   refine zac ?_
   refine uE ?_;(refine⟨h0,ft,dd ?_⟩);(rw[e1]);(refine⟨_,gt,tH,dd ?_⟩);(refine⟨k0,k1,dd ?_⟩);(refine⟨_,gx,tH,dd ?_⟩);(refine⟨k0,k1,dd ?_⟩);(refine⟨_,gx,rfl,dd ?_⟩);(rw[hst]);(refine zU [1] [⟨1,38,8,[iO 2 w],0⟩,oM ({m with pc:=21}),⟨1,0,1,(w.counts.map zA).set m.zm.toNat [C.sl 3 [] 1 0 r0.length false],0⟩,⟨2,52,1,(r0.set (m.answer.kind).toNat (IntKind.u64.wrap (x+1))).map qD,0⟩,⟨1,229,2,[tg],0⟩,oE zW] (rx:=Ce (fI {m with pc:=21} 3 10 (m.answer.kind))) (jn {m with pc:=21} 3 10 (m.answer.kind)) V V V V V (ze V (ze V (ze (zf own) V))) V V (dd ?_));exact dD
def jU{o:Oper}{σ:Operand->Value}{t t':TypeId}{x y:Operand}{k:IntKind}{n m:Int}(ho:o.op=.binOp .rem t x y t')(hx:σ x=.int k n)(hy:σ y=.int k m)(hm:m≠0):
  l9 P (execOp σ o)=some (.value (.int k (n.tmod m))):=by
 have hi:Op.intDiv .rem k n m=pure (.int k (n.tmod m)):=by unfold Op.intDiv;rw[pA hm]
 have hg:eqGuard .rem t x y (σ x) (σ y)=pure ():=rfl
 have hb:binOp .rem t (σ x) (σ y)=pure (.int k (n.tmod m)):=by
  rw[hx,hy];simp only[binOp,hi];exact pA ah
 unfold execOp;rw[ho];dsimp only;rw[hg,hb]
 rfl
def WS{n:Int}(h:0<=n)(h':n<18446744073709551616):IntKind.u64.wrap n=n:=by
 simp only[IntKind.wrap,IntKind.signed,IntKind.bits,Bool.false_and,s8,if_false];omega
abbrev ft(c:fV):List Int:=kO c.zM c.zM.length
def nR(c:fV)(n:Int):Int×Int:=if (ft c).length=0 then (0,5) else (((ft c)[(n%(ft c).length).toNat]?).getD 0,0)
def TF(c:fV)(n:Int)(hn:u64 n)(hl:c.zM.length<1000000000000)(hh:(ft c).length<=c.zM.length):th 262 [] [Cc c,U n] (.fy [I (nR c n).1,I (nR c n).2]) []:=by
 have ml:((ft c).map encI).length=(ft c).length:=pz ..;refine ab func262 ?_;refine af (IH c hl) ?_;rw[ml];refine⟨λh0=>?_,λh0=>?_⟩
 .unfold nR;have h0:=pC h0;rw[pD an];exact uI
 .unfold nR;have h0:=pB h0;rw[pA an];refine dd ?_
  have hw:IntKind.u64.wrap ((((ft c).map encI).length:Nat):Int)≠0:=by
   have hk:=ml;have:IntKind.u64.wrap ((((ft c).map encI).length:Nat):Int)=(ft c).length:=cU
   omega
  split
  rotate_left
  .rename_i hno;exact(hno _ (jU V V V hw)).elim
  .rename_i v e;have e':=e.symm.trans (jU V V V hw);cases e'
   refine dd ?_;have ew:IntKind.u64.wrap ((((ft c).map encI).length:Nat):Int)=(ft c).length:=cU
   have et:n.tmod (IntKind.u64.wrap ((((ft c).map encI).length:Nat):Int))=n%(ft c).length:=by rw[ew];exact tq hn.1
   have b0:0<=n%((ft c).length:Int):=sP _ h0;have b1:n%((ft c).length:Int)<(ft c).length:=sN _ an;have hi:(n%((ft c).length:Int)).toNat<(ft c).length:=an
   have gx:((ft c).map encI)[(n.tmod (IntKind.u64.wrap ((((ft c).map encI).length:Nat):Int))).toNat]?=some (encI ((ft c)[(n%((ft c).length:Int)).toNat]'hi)):=by rw[et,pw,pq hi];rfl
   refine⟨by show 0<=n.tmod (IntKind.u64.wrap ((((ft c).map encI).length:Nat):Int));rw[et];exact b0,_,gx,dd ?_⟩;rw[pq hi];exact uI
def Ta(a x b y:Int):th 266 [] [I a,I x,I b,I y] (I (if y<x then b else a)) []:=by
 refine ab func266 ?_;refine⟨λh=>?_,λh=>?_⟩
 .rw[pD (pC h)];exact dB
 .rw[pA (pB h)];exact dB
def Od(w:Wor)(m:fx)(v:fC)(g:Gr)(e:En)(hv:CI w m v g)(o0:0<=m.other)(ho:g.ends[m.other.toNat]?=some e):
  th 214 [oW w,oM m] [.agg tg] (Ce (ib m v 1 7 e.zo)) [oW w,oM ({m with end_:=if e.zo<m.i then m.other else m.end_,pc:=9})]:=by
 have er:(g.ends.map zx)[m.other.toNat]?=some (zx e):=by rw[pw,ho];rfl
 refine aa func214 ?_;refine .inl ⟨⟨true,[],[],[1]⟩,ak,uH ?_⟩;refine ae [0,1] (JU w m v g hv) ?_;refine tc ?_
 (refine⟨o0,_,er,dd ?_⟩)
 refine .inl ⟨⟨true,[],[],[15]⟩,ak,uH ?_⟩;refine af (Ta m.end_ m.i m.other e.zo) ?_;refine tc ?_
 refine ae [0,1] (wy w {m with end_:=if e.zo<m.i then m.other else m.end_,pc:=9} v ⟨hv.v0,hv.at_⟩ 1 7 e.zo) ?_;exact dk
structure nn(w:Wor)(m:fx)(v0:fC)(g0:Gr):Prop where
 pv:0<=m.version
 lv:m.version.toNat<w.zd.length
 pg:0<=m.zp
 lg:m.zp.toNat<v0.zg.length
 pe:0<=m.end_
 le:m.end_.toNat<g0.ends.length
def ig.ln{v0:fC}{g0:Gr}{e0:En}(h:ig w m v0 g0 e0):nn w m v0 g0:=⟨h.v0,(px.1 h.at_).1,h.g0,(px.1 h.iC).1,h.e0,(px.1 h.iM).1⟩
def Ee(sel:List Nat)(Kx:zq){K H0 H':zq}{args:List C}{rx:C}(h:zb P f H0 args0 r H')(hR:qL H'=true)
 (hH:xC sel K=H0)(ha:args.map (jQ sel 9)=args0)(qd:sel.all (λid=>Nat.blt id K.length)=true)(iv:yt sel=true)(ik:qL K=true){k:C->zq->Prop}
 (hp:wP sel K H'=Kx)(hr:yT (q8 sel K.length) 9 r=rx)(hk:k rx Kx):∃R,qC P f K args R/\∀r H2,R r H2->k r H2:=
 ⟨λx X=>x=rx/\X=Kx,(h.part sel hR hH ha qd iv ik).iu ⟨hr,hp⟩,by rintro _ _ ⟨rfl,rfl⟩;exact hk⟩
def FN(w:Wor)(m:fx)(v0:fC)(g0:Gr)(e0:En)(hv:nn w m v0 g0):th 261 (hE w m m v0 g0 e0 g0.zC e0.head e0.zo []) [.agg tg] (.ref 3 [] 2 m.zp.toNat 0) (hE w m m v0 g0 e0 g0.zC e0.head e0.zo []):=by
 have h0:=hv.pv;have g0':=hv.pg;have lv:m.version.toNat<w.zd.length:=hv.lv;have lg:m.zp.toNat<v0.zg.length:=hv.lg;have lowV:∀r∈fX w m v0 3,∀c∈r,qE 6 9 c=true:=zE (enc:=zt) (λ_=>V) V _ _;have lowG:∀r∈fT m v0 g0 g0.zC 4,∀c∈r,qE 6 9 c=true:=zE (enc:=zy) (λ_=>V) V _ _;have lowE:∀r∈fP m g0 e0 e0.head 5 e0.zo,∀c∈r,qE 6 9 c=true:=zE (enc:=zx) (λ_=>V) V _ _;have e1:0+m.version.toNat=m.version.toNat:=pK _;have e2:0+m.zp.toNat=m.zp.toNat:=pK _;have gv:(fX w m v0 3)[m.version.toNat]?=some (fR 3 v0):=pH (ai lv);refine aa func261 ?_;refine uE ?_;refine⟨h0,lv,dd ?_⟩;rw[e1];refine⟨_,gv,mB,dd ?_⟩;refine⟨g0',lg,dd ?_⟩;rw[e2];exact dw
def vY(w:Wor)(m:fx)(v0:fC)(g0:Gr)(e0:En)(hv:nn w m v0 g0):th 265 (hE w m m v0 g0 e0 g0.zC e0.head e0.zo []) [.agg tg] (.ref 4 [] 3 m.end_.toNat 0) (hE w m m v0 g0 e0 g0.zC e0.head e0.zo []):=by
 have h0:=hv.pe;have lg:m.zp.toNat<v0.zg.length:=hv.lg;have le:m.end_.toNat<g0.ends.length:=hv.le;have ownV:∀r∈fX w m v0 3,∀c∈r,zF c=true:=zE (enc:=zt) (λ_=>V) V _ _;have ownG:∀r∈fT m v0 g0 g0.zC 4,∀c∈r,zF c=true:=zE (enc:=zy) (λ_=>V) V _ _;have ownE:∀r∈fP m g0 e0 e0.head 5 e0.zo,∀c∈r,zF c=true:=zE (enc:=zx) (λ_=>V) V _ _;have lowV:∀r∈fX w m v0 3,∀c∈r,qE 6 9 c=true:=zE (enc:=zt) (λ_=>V) V _ _;have lowG:∀r∈fT m v0 g0 g0.zC 4,∀c∈r,qE 6 9 c=true:=zE (enc:=zy) (λ_=>V) V _ _;have lowE:∀r∈fP m g0 e0 e0.head 5 e0.zo,∀c∈r,qE 6 9 c=true:=zE (enc:=zx) (λ_=>V) V _ _;have e2:0+m.end_.toNat=m.end_.toNat:=pK _;have gg:(fT m v0 g0 g0.zC 4)[m.zp.toNat]?=some (fN 4 g0):=pH (ai lg);refine aa func265 ?_;refine .inl ⟨⟨true,[],[],[1]⟩,ak,uH ?_⟩;refine zU [0,1,2,3,4,5] (hE w m m v0 g0 e0 g0.zC e0.head e0.zo [⟨1,229,2,[tg],0⟩]) (rx:=.ref 3 [] 2 m.zp.toNat 0) (FN w m v0 g0 e0 hv) (ze V (ze V (ze (zf ownV) (ze (zf ownG) (ze (zf ownE) V))))) uR V V V (ze V (ze V (ze (zf ownV) (ze (zf ownG) (ze (zf ownE) V))))) uS V (dd ?_);refine⟨_,gg,mD,dd ?_⟩;refine⟨h0,le,dd ?_⟩;rw[e2];exact dw
def SM(w:Wor)(m:fx)(v0:fC)(g0:Gr)(e0:En)(hv:nn w m v0 g0)(a b c:Int):th 264 (hE w m m v0 g0 e0 g0.zC e0.head e0.zo []) [.agg tg,I a,I b,I c] (Ce (ib m v0 a b c)) (hE w m m v0 g0 e0 g0.zC e0.head e0.zo []):=by
 have h0:=hv.pv;have lv:m.version.toNat<w.zd.length:=hv.lv;have e1:0+m.version.toNat=m.version.toNat:=pK _
 clear hv
 obtain⟨sn,gs,fr⟩:=v0;cases fr
 all_goals
  have ownV:∀b,∀r∈(w.zd.map zt).set m.version.toNat (qV sn++[C.sl 3 [] 2 0 gs.length false,Bo b]),∀c∈r,zF c=true:=λb=>zE (enc:=zt) (λ_=>V) V _ _
  have ownG:∀r∈(gs.map zy).set m.zp.toNat (fN 4 g0),∀c∈r,zF c=true:=zE (enc:=zy) (λ_=>V) V _ _;have ownE:∀r∈fP m g0 e0 e0.head 5 e0.zo,∀c∈r,zF c=true:=zE (enc:=zx) (λ_=>V) V _ _;have lowV:∀b,∀r∈(w.zd.map zt).set m.version.toNat (qV sn++[C.sl 3 [] 2 0 gs.length false,Bo b]),∀c∈r,qE 6 9 c=true:=λb=>zE (enc:=zt) (λ_=>V) V _ _
  have gv:∀b,((w.zd.map zt).set m.version.toNat (qV sn++[C.sl 3 [] 2 0 gs.length false,Bo b]))[m.version.toNat]?=some (qV sn++[C.sl 3 [] 2 0 gs.length false,Bo b]):=λb=>pH (ai lv)
  have lowG:∀r∈(gs.map zy).set m.zp.toNat (fN 4 g0),∀c∈r,qE 6 9 c=true:=zE (enc:=zy) (λ_=>V) V _ _;have lowE:∀r∈fP m g0 e0 e0.head 5 e0.zo,∀c∈r,qE 6 9 c=true:=zE (enc:=zx) (λ_=>V) V _ _;refine aa func264 ?_;refine zU [1] [⟨1,38,8,[(ir w 2)],0⟩,oM m,⟨1,0,5,(w.zd.map zt).set m.version.toNat (qV sn++[C.sl 3 [] 2 0 gs.length false,Bo _]),0⟩,⟨1,0,2,(gs.map zy).set m.zp.toNat (fN 4 g0),0⟩,⟨1,0,3,fP m g0 e0 e0.head 5 e0.zo,0⟩,oN e0,⟨1,229,2,[tg],0⟩,oE zW] (rx:=Ce (fI m a b c)) (jn m a b c) V V V V V (ze V (ze V (ze (zf (ownV _)) (ze (zf ownG) (ze (zf ownE) V))))) V V (dd ?_);refine .inl ⟨⟨false,[6,9,11,14,17],[0,1,2,6],[]⟩,ak,uH ?_⟩;refine⟨h0,lv,dd ?_⟩;rw[e1];refine⟨_,gv _,(by show 4+1<=5;decide),dd ?_⟩
  first|((refine ya (dd ?_)))|((refine yb (dd ?_)))
  refine tc ?_
  exact⟨.inl V,_,_,.refl _,rfl,zl.jd 6 ta V V V (zR V (zR V (zR (qm (lowV _)) (zR (qm lowG) (zR (qm lowE) V))))) V⟩
abbrev Nt(e:En)(n:Int):En:={e with zo:=IntKind.i64.wrap (e.zo+n)}
def PY(w:Wor)(m:fx)(v0:fC)(g0:Gr)(e0:En)(hv:nn w m v0 g0):th 218 (hE w m m v0 g0 e0 g0.zC e0.head e0.zo []) [.agg tg] (Ce (ib m v0 3 7 (IntKind.i64.wrap (e0.zo+1))))
  [⟨1,38,8,[(ir w 2)],0⟩,oM ({m with answer:=⟨1,m.version,m.zp,m.end_,m.slot,m.listen,0,⟨0,0,0,0,0,0⟩⟩,pc:=20}),⟨1,0,5,fX w m v0 3,0⟩,⟨1,0,2,fT m v0 g0 g0.zC 4,0⟩,⟨1,0,3,(g0.ends.map zx).set m.end_.toNat [U e0.head,C.sl 5 [] 1 0 e0.next.length false,I (IntKind.i64.wrap (e0.zo+1))],0⟩,oN e0]:=by
 have le:=hv.le;have ownV:∀r∈fX w m v0 3,∀c∈r,zF c=true:=zE (enc:=zt) (λ_=>V) V _ _;have ownG:∀r∈fT m v0 g0 g0.zC 4,∀c∈r,zF c=true:=zE (enc:=zy) (λ_=>V) V _ _;have ownE:∀r∈fP m g0 e0 e0.head 5 e0.zo,∀c∈r,zF c=true:=zE (enc:=zx) (λ_=>V) V _ _;have ge:(fP m g0 e0 e0.head 5 e0.zo)[m.end_.toNat]?=some (fL 5 e0):=pH (ai le);refine aa func218 ?_;refine zby ?_;refine⟨_,ge,mH,dd ?_⟩;refine⟨_,ge,rfl,dd ?_⟩;rw[rb];refine uE ?_;have ownE2:∀r∈(g0.ends.map zx).set m.end_.toNat [U e0.head,C.sl 5 [] 1 0 e0.next.length false,I (IntKind.i64.wrap (e0.zo+1))],∀c∈r,zF c=true:=zE (enc:=zx) (λ_=>V) V _ _;refine .inl ⟨⟨true,[],[],[2,6]⟩,ak,uH ?_⟩;have hv2:nn w {m with answer:=⟨1,m.version,m.zp,m.end_,m.slot,m.listen,0,⟨0,0,0,0,0,0⟩⟩,pc:=20} v0 g0:=⟨hv.pv,hv.lv,hv.pg,hv.lg,hv.pe,hv.le⟩;have ge2:((g0.ends.map zx).set m.end_.toNat [U e0.head,C.sl 5 [] 1 0 e0.next.length false,I (IntKind.i64.wrap (e0.zo+1))])[m.end_.toNat]?=some [U e0.head,C.sl 5 [] 1 0 e0.next.length false,I (IntKind.i64.wrap (e0.zo+1))]:=pH (ai le);have lowV:∀r∈fX w m v0 3,∀c∈r,qE 6 9 c=true:=zE (enc:=zt) (λ_=>V) V _ _;have lowG:∀r∈fT m v0 g0 g0.zC 4,∀c∈r,qE 6 9 c=true:=zE (enc:=zy) (λ_=>V) V _ _;have lowE:∀r∈(g0.ends.map zx).set m.end_.toNat [U e0.head,C.sl 5 [] 1 0 e0.next.length false,I (IntKind.i64.wrap (e0.zo+1))],∀c∈r,qE 6 9 c=true:=zE (enc:=zx) (λ_=>V) V _ _;refine zU [0,1,2,3,4,5] [⟨1,38,8,[(ir w 2)],0⟩,oM ({m with answer:=⟨1,m.version,m.zp,m.end_,m.slot,m.listen,0,⟨0,0,0,0,0,0⟩⟩,pc:=20}),⟨1,0,5,fX w m v0 3,0⟩,⟨1,0,2,fT m v0 g0 g0.zC 4,0⟩,⟨1,0,3,(g0.ends.map zx).set m.end_.toNat [U e0.head,C.sl 5 [] 1 0 e0.next.length false,I (IntKind.i64.wrap (e0.zo+1))],0⟩,oN e0,⟨1,229,2,[tg],0⟩,oE zW] (rx:=.ref 4 [] 3 m.end_.toNat 0) (vY w _ v0 g0 (Nt e0 1) hv2) (ze V (ze V (ze (zf ownV) (ze (zf ownG) (ze (zf ownE2) V))))) uR V V V (ze V (ze V (ze (zf ownV) (ze (zf ownG) (ze (zf ownE2) V))))) uS V (dd ?_);refine⟨_,ge2,mH,dd ?_⟩;refine zU [0,1,2,3,4,5] [⟨1,38,8,[(ir w 2)],0⟩,oM ({m with answer:=⟨1,m.version,m.zp,m.end_,m.slot,m.listen,0,⟨0,0,0,0,0,0⟩⟩,pc:=20}),⟨1,0,5,fX w m v0 3,0⟩,⟨1,0,2,fT m v0 g0 g0.zC 4,0⟩,⟨1,0,3,(g0.ends.map zx).set m.end_.toNat [U e0.head,C.sl 5 [] 1 0 e0.next.length false,I (IntKind.i64.wrap (e0.zo+1))],0⟩,oN e0,⟨1,229,2,[tg],0⟩,oE zW] (rx:=Ce (ib m v0 3 7 (IntKind.i64.wrap (e0.zo+1)))) (SM w _ v0 g0 (Nt e0 1) hv2 3 7 (IntKind.i64.wrap (e0.zo+1))) (ze V (ze V (ze (zf ownV) (ze (zf ownG) (ze (zf ownE2) V))))) uR V V V (ze V (ze V (ze (zf ownV) (ze (zf ownG) (ze (zf ownE2) V))))) uS V (dd ?_);exact dw
end Go.Wor
