import Derived.Test.YtllehbdigpdinaaGreatTV
set_option linter.all false
set_option maxRecDepth 100000
set_option maxHeartbeats 4000000
namespace Go.Wor
open Go.Ab Go.Proofs Tryz Go.Hy Go.Gat Go.Nam Go.Hos Go.Con Go.Sna
variable{w:Wor}{m:fD}{v:fI}{P:Program}{f:FuncId}{args0:List C}{r:C}{g:Gr}
abbrev fX(m:fD)(a b c:Int):fG:=⟨m.zf,0,a,b, -1,false,c,false,false,false,oq⟩
abbrev iP(m:fD)(v:fI)(a b c:Int):fG:=⟨m.zf,0,a,b,m.version,v.qX,c,false,false,false,oq⟩
def jC(m:fD)(a b c:Int):tj 236 [oM m] [.agg [.za,.ref 0 [] 44 0 0],I a,I b,I c] (Ce (fX m a b c)) [oM m]:=by
 refine aa func236 ?_;exact dO
abbrev mT(n:Int):fN:=⟨n,0,0,0,0,0,0,⟨0,0,0,0,0,0⟩⟩
abbrev oX(m:fD)(n:Int):fD:={m with answer:=mT n,pc:=20}
def kS(m:fD)(n:Int):tj 237 [oM m] [.agg [.za,.ref 0 [] 44 0 0],I n] (.fJ []) [oM (oX m n)]:=by
 refine aa func237 ?_;refine .inl ⟨⟨false,[3],[1],[]⟩,au,uH ?_⟩;refine hU ?_
 exact⟨.inr V,_,_,.refl _,rfl,cE 1⟩
structure AH(w:Wor)(m:fD)(v:fI):Prop where
 v0:0<=m.version
 at_:w.ze[m.version.toNat]?=some v
def AH.row(h:AH w m v):(w.ze.map zM)[m.version.toNat]?=some (zM v):=by rw[gy,h.at_];rfl
def D0(w:Wor)(m:fD)(v:fI)(hv:AH w m v)(a b c:Int):tj 242 [oW w,oM m] [.agg tf,I a,I b,I c] (Ce (iP m v a b c)) [oW w,oM m]:=by
 have h0:=hv.v0;have hr:=hv.row;obtain⟨sn,gs,fr⟩:=v;cases fr
 all_goals
  refine aa func242 ?_;refine af [1] (jC m a b c) ?_;refine .inl ⟨⟨false,[6,9,11,14,17],[0,1,2],[]⟩,au,uH ?_⟩;(refine⟨h0,_,hr,dd ?_⟩)
  first|((refine ya (dd ?_)))|((refine yb (dd ?_)))
  refine hU ?_
  exact cW
def HW(sel:List Nat){K H0 H':zn}{args:List C}(h:zb P f H0 args0 r H')(hR:qw H'=true)
 (hH:xJ sel K=H0)(ha:args.map (xX sel 9)=args0)(qb:sel.all (λid=>Nat.blt id K.length)=true)(iL:yw sel=true)(iu:qw K=true){k:C->zn->Prop}
 (hk:CO (lD sel K H') λX=>qW (vH (jm sel K.length) 9 r) λc=>k c X):∃R',qM P f K args R'/\∀r H2,R' r H2->k r H2:=
 Pt sel (h.lh (R:=λx X=>x=r/\X=H') ⟨rfl,rfl⟩) (λ_ _ e=>e.2 ▸ hR) hH ha qb iL iu (by rintro _ _ ⟨rfl,rfl⟩;exact hk)
structure Fe(w:Wor)(m:fD)(v:fI)(g:Gr):Prop extends AH w m v where
 g0:0<=m.zg
 fY:v.zq[m.zg.toNat]?=some g
def Fe.Vq(h:Fe w m v g):(v.zq.map zK)[m.zg.toNat]?=some (zK g):=by rw[gy,h.fY];rfl
structure iB(w:Wor)(m:fD)(v:fI)(g:Gr)(e:En):Prop extends Fe w m v g where
 e0:0<=m.end_
 ib:g.ends[m.end_.toNat]?=some e
def iB.Vp{e:En}(h:iB w m v g e):(g.ends.map zE)[m.end_.toNat]?=some (zE e):=by rw[gy,h.ib];rfl
def OX(w:Wor)(m:fD)(v:fI)(g:Gr)(hv:Fe w m v g):tj 239 [oW w,oM m] [.agg tf] (.jy (zK g)) [oW w,oM m]:=by
 have h0:=hv.v0;have hr:=hv.row;have g0:=hv.g0;have gr:=hv.Vq;refine aa func239 ?_;refine uE ?_;(refine⟨h0,_,hr,dd ?_⟩)
 (refine⟨g0,_,gr,dd ?_⟩)
 exact cW
def DR(w:Wor)(m:fD)(v:fI)(g:Gr)(e:En)(hv:iB w m v g e):tj 243 [oW w,oM m] [.agg tf] (.jy (zE e)) [oW w,oM m]:=by
 have e0:=hv.e0;have er:=hv.Vp;refine aa func243 ?_;refine .inl ⟨⟨true,[],[],[1]⟩,au,uH ?_⟩;refine af [0,1] (OX w m v g hv.toFe) ?_;refine hU ?_
 (refine⟨e0,_,er,dd ?_⟩)
 exact cW
def wo(w:Wor)(m:fD)(v:fI)(c:ij)(hv:AH w m v)(c0:0<=m.zg)(hc:v.snap.zo[m.zg.toNat]?=some c):tj 241 [oW w,oM m] [.agg tf] (Cc c) [oW w,oM m]:=by
 have h0:=hv.v0;have hr:=hv.row;have cr:(v.snap.zo.map vo)[m.zg.toNat]?=some (vo c):=by rw[gy,hc];rfl
 refine aa func241 ?_;refine uE ?_;(refine⟨h0,_,hr,dd ?_⟩)
 (refine⟨c0,_,cr,dd ?_⟩)
 exact cW
def V0(w:Wor)(m:fD)(v:fI)(g:Gr)(e:En)(hv:iB w m v g e){x:Int}(s0:0<=m.slot)(hx:e.next[m.slot.toNat]?=some x):
  tj 203 [oW w,oM m] [.agg tf] (Ce (iP m v 1 9 x)) [oW w,oM ({m with link:=x,pc:=11})]:=by
 have er:(e.next.map encI)[m.slot.toNat]?=some (encI x):=by rw[gy,hx];rfl
 refine aa func203 ?_;refine .inl ⟨⟨true,[3],[2],[5]⟩,au,uH ?_⟩;refine af [0,1] (DR w m v g e hv) ?_;refine hU ?_
 (refine⟨s0,_,er,dd ?_⟩)
 refine hU ?_
 refine zaz ?_;refine af [0,1] (D0 w {m with link:=x,pc:=11} v ⟨hv.v0,hv.at_⟩ 1 9 x) ?_;exact cW
def VD(w:Wor)(m:fD)(v:fI)(g:Gr)(e:En)(hv:iB w m v g e):
  tj 200 [oW w,oM m] [.agg tf] (Ce (iP m v 1 7 e.zj)) [oW w,oM ({m with i:=e.zj,pc:=8})]:=by
 refine aa func200 ?_;refine .inl ⟨⟨true,[3],[2],[5]⟩,au,uH ?_⟩;refine af [0,1] (DR w m v g e hv) ?_;refine hU ?_
 refine hU ?_
 refine zaz ?_;refine af [0,1] (D0 w {m with i:=e.zj,pc:=8} v ⟨hv.v0,hv.at_⟩ 1 7 e.zj) ?_;exact cW
def VZ(w:Wor)(m:fD)(v:fI)(g:Gr)(e:En)(hv:iB w m v g e)(he:u64 e.head)(hi:0<=e.head%4294967296-1/\e.head%4294967296-1<e.next.length):
  tj 202 [oW w,oM m] [.agg tf] (Ce (iP m v 1 8 (e.head%4294967296-1))) [oW w,oM ({m with word:=e.head,slot:=e.head%4294967296-1,pc:=10})]:=by
 have hi1:=hi.1;have hi2:=hi.2;have ml:(e.next.map encI).length=e.next.length:=gC ..;refine aa func202 ?_;refine HW [0,1] (DR w m v g e hv) V V V V V V (dd ?_);refine ah (Slp.qT e.head he) ?_;refine zbd ?_;refine HW [0,1] (DR w {m with word:=e.head} v g e ⟨⟨⟨hv.v0,hv.at_⟩,hv.g0,hv.fY⟩,hv.e0,hv.ib⟩) V V V V V V (dd ?_);rw[ml];refine zbd ?_;refine af [0,1] (D0 w {m with word:=e.head,slot:=e.head%4294967296-1,pc:=10} v ⟨hv.v0,hv.at_⟩ 1 8 (e.head%4294967296-1)) ?_;exact cW
def XG(w:Wor)(m:fD)(x:fT)(h0:0<=m.listen)(hx:w.zc[m.listen.toNat]?=some x):
  tj 197 [⟨1,38,8,[nG 2 w],0⟩,oM m,⟨2,144,4,(w.zc).map qO,0⟩] [.agg tf] (Ce (fX m 3 5 (IntKind.i64.wrap (x.zj+1))))
   [⟨1,38,8,[nG 2 w],0⟩,oM ({m with pc:=5}),⟨2,144,4,(w.zc.set m.listen.toNat {x with zj:=IntKind.i64.wrap (x.zj+1)}).map qO,0⟩]:=by
 have e1:0+m.listen.toNat=m.listen.toNat:=gU _;have fE:m.listen.toNat<w.zc.length:=(gh.1 hx).1;have gx:(w.zc.map qO)[m.listen.toNat]?=some (qO x):=by rw[gy,hx];rfl
 refine aa func197 ?_;have hst:(w.zc.map qO).set m.listen.toNat [Tx x.name,Bo x.drain,I (IntKind.i64.wrap (x.zj+1)),Bo x.closed]=(w.zc.set m.listen.toNat {x with zj:=IntKind.i64.wrap (x.zj+1)}).map qO:=bZ
 have gx2:((w.zc.set m.listen.toNat {x with zj:=IntKind.i64.wrap (x.zj+1)}).map qO)[m.listen.toNat]?=some (qO {x with zj:=IntKind.i64.wrap (x.zj+1)}):=by rw[gy,gD fE];rfl
 refine uE ?_;refine⟨h0,fE,dd ?_⟩;rw[e1];refine⟨_,gx,cP,dd ?_⟩;refine⟨_,gx,rfl,dd ?_⟩;rw[hst];refine zaz ?_;refine⟨_,gx2,cP,dd ?_⟩;refine af [1] (jC {m with pc:=5} 3 5 (IntKind.i64.wrap (x.zj+1))) ?_;exact⟨.inl V,_,_,.refl _,rfl,cE 3⟩
def Xw(w:Wor)(m:fD)(x:fT)(h0:0<=m.listen)(hx:w.zc[m.listen.toNat]?=some x):
  tj 208 [⟨1,38,8,[nG 2 w],0⟩,oM m,⟨2,144,4,(w.zc).map qO,0⟩] [.agg tf] (Ce (fX m 3 5 (IntKind.i64.wrap (x.zj-1))))
   [⟨1,38,8,[nG 2 w],0⟩,oM ({m with pc:=23}),⟨2,144,4,(w.zc.set m.listen.toNat {x with zj:=IntKind.i64.wrap (x.zj-1)}).map qO,0⟩]:=by
 have e1:0+m.listen.toNat=m.listen.toNat:=gU _;have fE:m.listen.toNat<w.zc.length:=(gh.1 hx).1;have gx:(w.zc.map qO)[m.listen.toNat]?=some (qO x):=by rw[gy,hx];rfl
 refine aa func208 ?_;have hst:(w.zc.map qO).set m.listen.toNat [Tx x.name,Bo x.drain,I (IntKind.i64.wrap (x.zj-1)),Bo x.closed]=(w.zc.set m.listen.toNat {x with zj:=IntKind.i64.wrap (x.zj-1)}).map qO:=bZ
 have gx2:((w.zc.set m.listen.toNat {x with zj:=IntKind.i64.wrap (x.zj-1)}).map qO)[m.listen.toNat]?=some (qO {x with zj:=IntKind.i64.wrap (x.zj-1)}):=by rw[gy,gD fE];rfl
 refine uE ?_;refine⟨h0,fE,dd ?_⟩;rw[e1];refine⟨_,gx,cP,dd ?_⟩;refine⟨_,gx,rfl,dd ?_⟩;rw[hst];refine zaz ?_;refine⟨_,gx2,cP,dd ?_⟩;refine af [1] (jC {m with pc:=23} 3 5 (IntKind.i64.wrap (x.zj-1))) ?_;exact⟨.inl V,_,_,.refl _,rfl,cE 3⟩
def zX(sel:List Nat)(Kx:zn){K H0 H':zn}{args:List C}{rx:C}(h:zb P f H0 args0 r H')(hR:qw H'=true)
 (hH:xJ sel K=H0)(ha:args.map (xX sel 9)=args0)(qb:sel.all (λid=>Nat.blt id K.length)=true)(iL:yw sel=true)(iu:qw K=true){k:C->zn->Prop}
 (hp:lD sel K H'=Kx)(hr:vH (jm sel K.length) 9 r=rx)(hk:okB rx λc=>k c Kx):∃r H2,zb P f K args r H2/\okB r λc=>k c H2:=
 ⟨_,_,h.part sel hR hH ha qb iL iu,by rw[hp,hr];exact hk⟩
def zI{n:Nat}{x:Ob}{H:zn}(h1:zW n [x]=true)(h2:zW n H=true):zW n (x::H)=true:=by
 unfold zW at *;exact dz
def qp{n ty sz fz:Nat}{rows:List (List C)}(h:∀r∈rows,∀c∈r,je n 9 c=true):zW n [⟨1,ty,sz,rows,fz⟩]=true:=by
 unfold zW;simp only[r7,tX,sF];have:(rows.all λr=>r.all (je n 9))=true:=gE.2 λr hr=>gE.2 λc hc=>h r hr c hc
 rw[this];simp
def V2(w:Wor)(m:fD)(r0:List Int)(x:Int)(h0:0<=m.zf)(hr:w.counts[m.zf.toNat]?=some r0)(hx:r0[0]?=some x):
  tj 207 [⟨1,38,8,[mH 2 w],0⟩,oM m,⟨1,0,1,(w.counts.map zQ).set m.zf.toNat [C.sl 3 [] 1 0 r0.length false],0⟩,⟨2,63,1,(r0).map j4,0⟩] [.agg tf] (Ce (fX m 3 10 0))
   [⟨1,38,8,[mH 2 w],0⟩,oM ({m with pc:=if m.answer.kind=1\/m.listen<0 then 23 else 22}),⟨1,0,1,(w.counts.map zQ).set m.zf.toNat [C.sl 3 [] 1 0 r0.length false],0⟩,⟨2,63,1,(r0.set 0 (IntKind.u64.wrap (x+1))).map j4,0⟩]:=by
 have e1:0+m.zf.toNat=m.zf.toNat:=gU _;have fE:m.zf.toNat<w.counts.length:=(gh.1 hr).1;have gt:((w.counts.map zQ).set m.zf.toNat [C.sl 3 [] 1 0 r0.length false])[m.zf.toNat]?=some [C.sl 3 [] 1 0 r0.length false]:=gD tR;have gx:(r0.map j4)[0]?=some (j4 x):=by rw[gy,hx];rfl
 have hl0:0<r0.length:=(gh.1 hx).1;have hst:(r0.map j4).set 0 [U (IntKind.u64.wrap (x+1))]=(r0.set 0 (IntKind.u64.wrap (x+1))).map j4:=bZ
 have own:∀r∈(w.counts.map zQ).set m.zf.toNat [C.sl 3 [] 1 0 r0.length false],∀c∈r,zB c=true:=zD (enc:=zQ) (λ_=>V) V _ _;have low:∀r∈(w.counts.map zQ).set m.zf.toNat [C.sl 3 [] 1 0 r0.length false],∀c∈r,je 4 9 c=true:=zD (enc:=zQ) (λ_=>V) V _ _;refine aa func207 ?_;refine uE ?_;refine⟨h0,fE,dd ?_⟩;rw[e1];refine⟨_,gt,tP,dd ?_⟩;refine⟨ar,hl0,dd ?_⟩;refine⟨_,gx,tP,dd ?_⟩;refine⟨ar,hl0,dd ?_⟩;refine⟨_,gx,rfl,dd ?_⟩;have hst2:(r0.map j4).set (0+Int.toNat 0) [U (IntKind.u64.wrap (x+1))]=(r0.set 0 (IntKind.u64.wrap (x+1))).map j4:=hst;rw[hst2];refine⟨λh1=>?_,λh1=>?_⟩
 .rw[gz (.inl (gL h1))];refine zad ?_
  exact zaE
 .refine dd ?_;refine⟨λh2=>?_,λh2=>?_⟩
  .rw[gz (.inr (gL h2))];refine zad ?_
   exact zaE
  .rw[gp (λh=>h.elim (rE h1) (rE h2))];refine zad ?_
   refine zX [1] [⟨1,38,8,[mH 2 w],0⟩,oM ({m with pc:=22}),⟨1,0,1,(w.counts.map zQ).set m.zf.toNat [C.sl 3 [] 1 0 r0.length false],0⟩,⟨2,63,1,(r0.set 0 (IntKind.u64.wrap (x+1))).map j4,0⟩,⟨1,260,2,[tf],0⟩,oE qJ] (rx:=Ce (fX {m with pc:=22} 3 10 0)) (jC {m with pc:=22} 3 10 0) V V V V V (zd V (zd V (zd (zi own) V))) V V (dd ?_);exact da
def AX(n:Int):Int:=if n<1\/5<n then 0 else n
def VU(w:Wor)(m:fD)(r0:List Int)(x k:Int)(hk:AX m.answer.kind=k)(h0:0<=m.zf)(hr:w.counts[m.zf.toNat]?=some r0)(hx:r0[k.toNat]?=some x):
  tj 206 [⟨1,38,8,[mH 2 w],0⟩,oM m,⟨1,0,1,(w.counts.map zQ).set m.zf.toNat [C.sl 3 [] 1 0 r0.length false],0⟩,⟨2,63,1,(r0).map j4,0⟩] [.agg tf] (Ce (fX m 3 10 k))
   [⟨1,38,8,[mH 2 w],0⟩,oM ({m with pc:=21}),⟨1,0,1,(w.counts.map zQ).set m.zf.toNat [C.sl 3 [] 1 0 r0.length false],0⟩,⟨2,63,1,(r0.set k.toNat (IntKind.u64.wrap (x+1))).map j4,0⟩]:=by
 have e1:0+m.zf.toNat=m.zf.toNat:=gU _;have k0:0<=k:=by rw[<-hk];unfold AX;split <;> omega
 have k1:k.toNat<r0.length:=(gh.1 hx).1;have fE:m.zf.toNat<w.counts.length:=(gh.1 hr).1;have gt:((w.counts.map zQ).set m.zf.toNat [C.sl 3 [] 1 0 r0.length false])[m.zf.toNat]?=some [C.sl 3 [] 1 0 r0.length false]:=gD tR;have gx:(r0.map j4)[0+k.toNat]?=some (j4 x):=by rw[gU,gy,hx];rfl
 have hst:(r0.map j4).set (0+k.toNat) [U (IntKind.u64.wrap (x+1))]=(r0.set k.toNat (IntKind.u64.wrap (x+1))).map j4:=by rw[gU,rp];rfl
 have own:∀r∈(w.counts.map zQ).set m.zf.toNat [C.sl 3 [] 1 0 r0.length false],∀c∈r,zB c=true:=zD (enc:=zQ) (λ_=>V) V _ _;have low:∀r∈(w.counts.map zQ).set m.zf.toNat [C.sl 3 [] 1 0 r0.length false],∀c∈r,je 4 9 c=true:=zD (enc:=zQ) (λ_=>V) V _ _;refine aa func206 ?_;refine⟨λh1=>?_,λh1=>?_⟩
 .obtain rfl:k=0:=by rw[<-hk];unfold AX;rw[gz (.inl (gL h1))]
  refine zad ?_
  refine uE ?_;exact zav
 .refine zad ?_
  refine⟨λh2=>?_,λh2=>?_⟩
  .obtain rfl:k=0:=by rw[<-hk];unfold AX;rw[gz (.inr (gL h2))]
   refine zad ?_
   refine uE ?_;exact zav
  .obtain rfl:k=m.answer.kind:=by rw[<-hk];unfold AX;rw[gp (λh=>h.elim (rE h1) (rE h2))]
   refine zad ?_
   refine uE ?_;(refine⟨h0,fE,dd ?_⟩);(rw[e1]);(refine⟨_,gt,tP,dd ?_⟩);(refine⟨k0,k1,dd ?_⟩);(refine⟨_,gx,tP,dd ?_⟩);(refine⟨k0,k1,dd ?_⟩);(refine⟨_,gx,rfl,dd ?_⟩);(rw[hst]);(refine zX [1] [⟨1,38,8,[mH 2 w],0⟩,oM ({m with pc:=21}),⟨1,0,1,(w.counts.map zQ).set m.zf.toNat [C.sl 3 [] 1 0 r0.length false],0⟩,⟨2,63,1,(r0.set (m.answer.kind).toNat (IntKind.u64.wrap (x+1))).map j4,0⟩,⟨1,260,2,[tf],0⟩,oE qJ] (rx:=Ce (fX {m with pc:=21} 3 10 (m.answer.kind))) (jC {m with pc:=21} 3 10 (m.answer.kind)) V V V V V (zd V (zd V (zd (zi own) V))) V V (dd ?_));exact da
def yA{o:Oper}{σ:Operand->Value}{t t':TypeId}{x y:Operand}{k:IntKind}{n m:Int}(ho:o.op=.binOp .rem t x y t')(hx:σ x=.int k n)(hy:σ y=.int k m)(hm:m≠0):
  nh P (execOp σ o)=some (.value (.int k (n.tmod m))):=by
 have hi:Op.intDiv .rem k n m=pure (.int k (n.tmod m)):=by unfold Op.intDiv;rw[gp hm]
 have hg:eqGuard .rem t x y (σ x) (σ y)=pure ():=rfl
 have hb:binOp .rem t (σ x) (σ y)=pure (.int k (n.tmod m)):=by
  rw[hx,hy];simp only[binOp,hi];exact gp aj
 unfold execOp;rw[ho];dsimp only;rw[hg,hb]
 rfl
def NO{n:Int}(h:0<=n)(h':n<18446744073709551616):IntKind.u64.wrap n=n:=by
 simp only[IntKind.wrap,IntKind.signed,IntKind.bits,fB,sB,if_false];omega
abbrev fE(c:ij):List Int:=mL c.zS c.zS.length
def oU(c:ij)(n:Int):Int×Int:=if (fE c).length=0 then (0,5) else (((fE c)[(n%(fE c).length).toNat]?).getD 0,0)
def ZP(c:ij)(n:Int)(hn:u64 n)(hl:c.zS.length<1000000000000)(hh:(fE c).length<=c.zS.length):tj 240 [] [Cc c,U n] (.fJ [I (oU c n).1,I (oU c n).2]) []:=by
 have ml:((fE c).map encI).length=(fE c).length:=gC ..;refine ab func240 ?_;refine ah (NZ c hl) ?_;rw[ml];refine⟨λh0=>?_,λh0=>?_⟩
 .unfold oU;have h0:=gL h0;rw[gz aw];exact uI
 .unfold oU;have h0:=rE h0;rw[gp aw];refine dd ?_
  have hw:IntKind.u64.wrap ((((fE c).map encI).length:Nat):Int)≠0:=by
   have hk:=ml;have:IntKind.u64.wrap ((((fE c).map encI).length:Nat):Int)=(fE c).length:=by rw[ml];exact NO aw aw
   omega
  split
  rotate_left
  .rename_i hno;exact(hno _ (yA V V V hw)).elim
  .rename_i v e;have e':=e.symm.trans (yA V V V hw);cases e'
   refine dd ?_;have ew:IntKind.u64.wrap ((((fE c).map encI).length:Nat):Int)=(fE c).length:=by rw[ml];exact NO aw aw
   have et:n.tmod (IntKind.u64.wrap ((((fE c).map encI).length:Nat):Int))=n%(fE c).length:=by rw[ew];exact sD hn.1
   have b0:0<=n%((fE c).length:Int):=sS _ h0;have b1:n%((fE c).length:Int)<(fE c).length:=sT _ aw;have hi:(n%((fE c).length:Int)).toNat<(fE c).length:=aw
   have gx:((fE c).map encI)[(n.tmod (IntKind.u64.wrap ((((fE c).map encI).length:Nat):Int))).toNat]?=some (encI ((fE c)[(n%((fE c).length:Int)).toNat]'hi)):=by rw[et,gy,gk hi];rfl
   refine⟨by show 0<=n.tmod (IntKind.u64.wrap ((((fE c).map encI).length:Nat):Int));rw[et];exact b0,_,gx,dd ?_⟩;rw[gk hi];exact uI
def Zt(a x b y:Int):tj 244 [] [I a,I x,I b,I y] (I (if y<x then b else a)) []:=by
 refine ab func244 ?_;refine⟨λh=>?_,λh=>?_⟩
 .rw[gz (gL h)];exact dp
 .rw[gp (rE h)];exact dp
def VF(w:Wor)(m:fD)(v:fI)(g:Gr)(e:En)(hv:Fe w m v g)(o0:0<=m.other)(ho:g.ends[m.other.toNat]?=some e):
  tj 201 [oW w,oM m] [.agg tf] (Ce (iP m v 1 7 e.zj)) [oW w,oM ({m with end_:=if e.zj<m.i then m.other else m.end_,pc:=9})]:=by
 have er:(g.ends.map zE)[m.other.toNat]?=some (zE e):=by rw[gy,ho];rfl
 refine aa func201 ?_;refine .inl ⟨⟨true,[],[],[1]⟩,au,uH ?_⟩;refine af [0,1] (OX w m v g hv) ?_;refine hU ?_
 (refine⟨o0,_,er,dd ?_⟩)
 refine .inl ⟨⟨true,[],[],[15]⟩,au,uH ?_⟩;refine ah (Zt m.end_ m.i m.other e.zj) ?_;refine hU ?_
 refine af [0,1] (D0 w {m with end_:=if e.zj<m.i then m.other else m.end_,pc:=9} v ⟨hv.v0,hv.at_⟩ 1 7 e.zj) ?_;exact cW
structure oK(w:Wor)(m:fD)(v0:fI)(g0:Gr):Prop where
 pv:0<=m.version
 lv:m.version.toNat<w.ze.length
 pg:0<=m.zg
 lg:m.zg.toNat<v0.zq.length
 pe:0<=m.end_
 le:m.end_.toNat<g0.ends.length
def iB.ln{v0:fI}{g0:Gr}{e0:En}(h:iB w m v0 g0 e0):oK w m v0 g0:=⟨h.v0,(gh.1 h.at_).1,h.g0,(gh.1 h.fY).1,h.e0,(gh.1 h.ib).1⟩
def HS(sel:List Nat)(Kx:zn){K H0 H':zn}{args:List C}{rx:C}(h:zb P f H0 args0 r H')(hR:qw H'=true)
 (hH:xJ sel K=H0)(ha:args.map (xX sel 9)=args0)(qb:sel.all (λid=>Nat.blt id K.length)=true)(iL:yw sel=true)(iu:qw K=true){k:C->zn->Prop}
 (hp:lD sel K H'=Kx)(hr:vH (jm sel K.length) 9 r=rx)(hk:k rx Kx):∃R,qM P f K args R/\∀r H2,R r H2->k r H2:=
 ⟨λx X=>x=rx/\X=Kx,(h.part sel hR hH ha qb iL iu).lh ⟨hr,hp⟩,by rintro _ _ ⟨rfl,rfl⟩;exact hk⟩
def JW(w:Wor)(m:fD)(v0:fI)(g0:Gr)(e0:En)(hv:oK w m v0 g0):tj 239 (hE w m m v0 g0 e0 g0.zx e0.head e0.zj []) [.agg tf] (.ref 3 [] 2 m.zg.toNat 0) (hE w m m v0 g0 e0 g0.zx e0.head e0.zj []):=by
 have h0:=hv.pv;have g0':=hv.pg;have lv:m.version.toNat<w.ze.length:=hv.lv;have lg:m.zg.toNat<v0.zq.length:=hv.lg;have lowV:∀r∈iO w m v0 3,∀c∈r,je 6 9 c=true:=zD (enc:=zM) (λ_=>V) V _ _;have lowG:∀r∈iK m v0 g0 g0.zx 4,∀c∈r,je 6 9 c=true:=zD (enc:=zK) (λ_=>V) V _ _;have lowE:∀r∈iD m g0 e0 e0.head 5 e0.zj,∀c∈r,je 6 9 c=true:=zD (enc:=zE) (λ_=>V) V _ _;have e1:0+m.version.toNat=m.version.toNat:=gU _;have e2:0+m.zg.toNat=m.zg.toNat:=gU _;have gv:(iO w m v0 3)[m.version.toNat]?=some (iY 3 v0):=gD (aq lv);refine aa func239 ?_;refine uE ?_;refine⟨h0,lv,dd ?_⟩;rw[e1];refine⟨_,gv,cQ,dd ?_⟩;refine⟨g0',lg,dd ?_⟩;rw[e2];exact cY
def kQ(w:Wor)(m:fD)(v0:fI)(g0:Gr)(e0:En)(hv:oK w m v0 g0):tj 243 (hE w m m v0 g0 e0 g0.zx e0.head e0.zj []) [.agg tf] (.ref 4 [] 3 m.end_.toNat 0) (hE w m m v0 g0 e0 g0.zx e0.head e0.zj []):=by
 have h0:=hv.pe;have lg:m.zg.toNat<v0.zq.length:=hv.lg;have le:m.end_.toNat<g0.ends.length:=hv.le;have ownV:∀r∈iO w m v0 3,∀c∈r,zB c=true:=zD (enc:=zM) (λ_=>V) V _ _;have ownG:∀r∈iK m v0 g0 g0.zx 4,∀c∈r,zB c=true:=zD (enc:=zK) (λ_=>V) V _ _;have ownE:∀r∈iD m g0 e0 e0.head 5 e0.zj,∀c∈r,zB c=true:=zD (enc:=zE) (λ_=>V) V _ _;have lowV:∀r∈iO w m v0 3,∀c∈r,je 6 9 c=true:=zD (enc:=zM) (λ_=>V) V _ _;have lowG:∀r∈iK m v0 g0 g0.zx 4,∀c∈r,je 6 9 c=true:=zD (enc:=zK) (λ_=>V) V _ _;have lowE:∀r∈iD m g0 e0 e0.head 5 e0.zj,∀c∈r,je 6 9 c=true:=zD (enc:=zE) (λ_=>V) V _ _;have e2:0+m.end_.toNat=m.end_.toNat:=gU _;have gg:(iK m v0 g0 g0.zx 4)[m.zg.toNat]?=some (im 4 g0):=gD (aq lg);refine aa func243 ?_;refine .inl ⟨⟨true,[],[],[1]⟩,au,uH ?_⟩;refine zX [0,1,2,3,4,5] (hE w m m v0 g0 e0 g0.zx e0.head e0.zj [⟨1,260,2,[tf],0⟩]) (rx:=.ref 3 [] 2 m.zg.toNat 0) (JW w m v0 g0 e0 hv) (zd V (zd V (zd (zi ownV) (zd (zi ownG) (zd (zi ownE) V))))) uU V V V (zd V (zd V (zd (zi ownV) (zd (zi ownG) (zd (zi ownE) V))))) uV V (dd ?_);refine⟨_,gg,cR,dd ?_⟩;refine⟨h0,le,dd ?_⟩;rw[e2];exact cY
def ZL(w:Wor)(m:fD)(v0:fI)(g0:Gr)(e0:En)(hv:oK w m v0 g0)(a b c:Int):tj 242 (hE w m m v0 g0 e0 g0.zx e0.head e0.zj []) [.agg tf,I a,I b,I c] (Ce (iP m v0 a b c)) (hE w m m v0 g0 e0 g0.zx e0.head e0.zj []):=by
 have h0:=hv.pv;have lv:m.version.toNat<w.ze.length:=hv.lv;have e1:0+m.version.toNat=m.version.toNat:=gU _
 clear hv
 obtain⟨sn,gs,fr⟩:=v0;cases fr
 all_goals
  have ownV:∀b,∀r∈(w.ze.map zM).set m.version.toNat (encS sn++[C.sl 3 [] 2 0 gs.length false,Bo b]),∀c∈r,zB c=true:=λb=>zD (enc:=zM) (λ_=>V) V _ _
  have ownG:∀r∈(gs.map zK).set m.zg.toNat (im 4 g0),∀c∈r,zB c=true:=zD (enc:=zK) (λ_=>V) V _ _;have ownE:∀r∈iD m g0 e0 e0.head 5 e0.zj,∀c∈r,zB c=true:=zD (enc:=zE) (λ_=>V) V _ _;have lowV:∀b,∀r∈(w.ze.map zM).set m.version.toNat (encS sn++[C.sl 3 [] 2 0 gs.length false,Bo b]),∀c∈r,je 6 9 c=true:=λb=>zD (enc:=zM) (λ_=>V) V _ _
  have gv:∀b,((w.ze.map zM).set m.version.toNat (encS sn++[C.sl 3 [] 2 0 gs.length false,Bo b]))[m.version.toNat]?=some (encS sn++[C.sl 3 [] 2 0 gs.length false,Bo b]):=λb=>gD (aq lv)
  have lowG:∀r∈(gs.map zK).set m.zg.toNat (im 4 g0),∀c∈r,je 6 9 c=true:=zD (enc:=zK) (λ_=>V) V _ _;have lowE:∀r∈iD m g0 e0 e0.head 5 e0.zj,∀c∈r,je 6 9 c=true:=zD (enc:=zE) (λ_=>V) V _ _;refine aa func242 ?_;refine zX [1] [⟨1,38,8,[(l7 w 2)],0⟩,oM m,⟨1,0,5,(w.ze.map zM).set m.version.toNat (encS sn++[C.sl 3 [] 2 0 gs.length false,Bo _]),0⟩,⟨1,0,2,(gs.map zK).set m.zg.toNat (im 4 g0),0⟩,⟨1,0,3,iD m g0 e0 e0.head 5 e0.zj,0⟩,oN e0,⟨1,260,2,[tf],0⟩,oE qJ] (rx:=Ce (fX m a b c)) (jC m a b c) V V V V V (zd V (zd V (zd (zi (ownV _)) (zd (zi ownG) (zd (zi ownE) V))))) V V (dd ?_);refine .inl ⟨⟨false,[6,9,11,14,17],[0,1,2,6],[]⟩,au,uH ?_⟩;refine⟨h0,lv,dd ?_⟩;rw[e1];refine⟨_,gv _,(by show 4+1<=5;decide),dd ?_⟩
  first|((refine ya (dd ?_)))|((refine yb (dd ?_)))
  refine hU ?_
  exact⟨.inl V,_,_,.refl _,rfl,zp.xO 6 hC V V V (zI V (zI V (zI (qp (lowV _)) (zI (qp lowG) (zI (qp lowE) V))))) V⟩
abbrev NA(e:En)(n:Int):En:={e with zj:=IntKind.i64.wrap (e.zj+n)}
def WQ(w:Wor)(m:fD)(v0:fI)(g0:Gr)(e0:En)(hv:oK w m v0 g0):tj 205 (hE w m m v0 g0 e0 g0.zx e0.head e0.zj []) [.agg tf] (Ce (iP m v0 3 7 (IntKind.i64.wrap (e0.zj+1))))
  [⟨1,38,8,[(l7 w 2)],0⟩,oM ({m with answer:=⟨1,m.version,m.zg,m.end_,m.slot,m.listen,0,⟨0,0,0,0,0,0⟩⟩,pc:=20}),⟨1,0,5,iO w m v0 3,0⟩,⟨1,0,2,iK m v0 g0 g0.zx 4,0⟩,⟨1,0,3,(g0.ends.map zE).set m.end_.toNat [U e0.head,C.sl 5 [] 1 0 e0.next.length false,I (IntKind.i64.wrap (e0.zj+1))],0⟩,oN e0]:=by
 have le:=hv.le;have ownV:∀r∈iO w m v0 3,∀c∈r,zB c=true:=zD (enc:=zM) (λ_=>V) V _ _;have ownG:∀r∈iK m v0 g0 g0.zx 4,∀c∈r,zB c=true:=zD (enc:=zK) (λ_=>V) V _ _;have ownE:∀r∈iD m g0 e0 e0.head 5 e0.zj,∀c∈r,zB c=true:=zD (enc:=zE) (λ_=>V) V _ _;have ge:(iD m g0 e0 e0.head 5 e0.zj)[m.end_.toNat]?=some (ia 5 e0):=gD (aq le);refine aa func205 ?_;refine zaR ?_;refine⟨_,ge,cS,dd ?_⟩;refine⟨_,ge,rfl,dd ?_⟩;rw[pA];refine uE ?_;have ownE2:∀r∈(g0.ends.map zE).set m.end_.toNat [U e0.head,C.sl 5 [] 1 0 e0.next.length false,I (IntKind.i64.wrap (e0.zj+1))],∀c∈r,zB c=true:=zD (enc:=zE) (λ_=>V) V _ _;refine .inl ⟨⟨true,[],[],[2,6]⟩,au,uH ?_⟩;have hv2:oK w {m with answer:=⟨1,m.version,m.zg,m.end_,m.slot,m.listen,0,⟨0,0,0,0,0,0⟩⟩,pc:=20} v0 g0:=⟨hv.pv,hv.lv,hv.pg,hv.lg,hv.pe,hv.le⟩;have ge2:((g0.ends.map zE).set m.end_.toNat [U e0.head,C.sl 5 [] 1 0 e0.next.length false,I (IntKind.i64.wrap (e0.zj+1))])[m.end_.toNat]?=some [U e0.head,C.sl 5 [] 1 0 e0.next.length false,I (IntKind.i64.wrap (e0.zj+1))]:=gD (aq le);have lowV:∀r∈iO w m v0 3,∀c∈r,je 6 9 c=true:=zD (enc:=zM) (λ_=>V) V _ _;have lowG:∀r∈iK m v0 g0 g0.zx 4,∀c∈r,je 6 9 c=true:=zD (enc:=zK) (λ_=>V) V _ _;have lowE:∀r∈(g0.ends.map zE).set m.end_.toNat [U e0.head,C.sl 5 [] 1 0 e0.next.length false,I (IntKind.i64.wrap (e0.zj+1))],∀c∈r,je 6 9 c=true:=zD (enc:=zE) (λ_=>V) V _ _;refine zX [0,1,2,3,4,5] [⟨1,38,8,[(l7 w 2)],0⟩,oM ({m with answer:=⟨1,m.version,m.zg,m.end_,m.slot,m.listen,0,⟨0,0,0,0,0,0⟩⟩,pc:=20}),⟨1,0,5,iO w m v0 3,0⟩,⟨1,0,2,iK m v0 g0 g0.zx 4,0⟩,⟨1,0,3,(g0.ends.map zE).set m.end_.toNat [U e0.head,C.sl 5 [] 1 0 e0.next.length false,I (IntKind.i64.wrap (e0.zj+1))],0⟩,oN e0,⟨1,260,2,[tf],0⟩,oE qJ] (rx:=.ref 4 [] 3 m.end_.toNat 0) (kQ w _ v0 g0 (NA e0 1) hv2) (zd V (zd V (zd (zi ownV) (zd (zi ownG) (zd (zi ownE2) V))))) uU V V V (zd V (zd V (zd (zi ownV) (zd (zi ownG) (zd (zi ownE2) V))))) uV V (dd ?_);refine⟨_,ge2,cS,dd ?_⟩;refine zX [0,1,2,3,4,5] [⟨1,38,8,[(l7 w 2)],0⟩,oM ({m with answer:=⟨1,m.version,m.zg,m.end_,m.slot,m.listen,0,⟨0,0,0,0,0,0⟩⟩,pc:=20}),⟨1,0,5,iO w m v0 3,0⟩,⟨1,0,2,iK m v0 g0 g0.zx 4,0⟩,⟨1,0,3,(g0.ends.map zE).set m.end_.toNat [U e0.head,C.sl 5 [] 1 0 e0.next.length false,I (IntKind.i64.wrap (e0.zj+1))],0⟩,oN e0,⟨1,260,2,[tf],0⟩,oE qJ] (rx:=Ce (iP m v0 3 7 (IntKind.i64.wrap (e0.zj+1)))) (ZL w _ v0 g0 (NA e0 1) hv2 3 7 (IntKind.i64.wrap (e0.zj+1))) (zd V (zd V (zd (zi ownV) (zd (zi ownG) (zd (zi ownE2) V))))) uU V V V (zd V (zd V (zd (zi ownV) (zd (zi ownG) (zd (zi ownE2) V))))) uV V (dd ?_);exact cY
end Go.Wor
